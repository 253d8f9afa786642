/- The statement WordsName, walked by hand. -/
import Derived.Test.YtpgpmldaggpciaaDoorWm
import Derived.Test.YtpgpmldaggpciaaDoorEnds
import Derived.Test.YtpgpmldaggpciaaDoorOD
import Derived.Test.YtpgpmldaggpciaaDoorValH
set_option linter.unusedVariables false
set_option linter.unusedSimpArgs false
namespace Go.Proofs.YtpgpmldaggpciaaDoor.GW
open Go.RowKit Go.Proofs.YtpgpmldaggpciaaDoorW.PrintWords Go.Proofs.YtpgpmldaggpciaaDoorW.PrintLast Go.Proofs.YtpgpmldaggpciaaDoorW.PrintMore Go.Proofs.YtpgpmldaggpciaaDoor.Maths Go.Proofs.YtpgpmldaggpciaaDoor.TabW Go.Proofs.YtpgpmldaggpciaaDoor.HK Go.Proofs.YtpgpmldaggpciaaDoor.Val
section
variable {P : Program} {md : Region.Mode} {ops : Array Oper} {Q : Exit → Act → World → Prop} {S : World → Prop}
theorem one {i : Nat} {fuel : Nat} {listed : Array Bool} {a : Act} {w : World} (hr : Region.ready md ops listed = [i]) (h : wpOp P ops Q i (fun a' w' => S w' ∧ wpAnyH P md ops Q S fuel (listed.setIfInBounds i true) a' w') a w) : wpAnyH P md ops Q S (fuel + 1) listed a w :=
  wpAnyH_all hr (by simp) (fun j hj => by simp at hj; subst hj; exact h)
theorem wpOp_wanted {i : Nat} {o : Oper} {K : Act → World → Prop} {a : Act} {w : World} (ho : ops[i]? = some o) (hw : Region.wanted o (yielded ops a.tmps) = true) (h : ∀ K' : Act → World → Prop, (∀ a w, K a w → K' a w) → o.wp P a w K' Q) : wpOp P ops Q i K a w := by
  unfold wpOp
  rw [ho]
  simp only [hw, if_true]
  exact .inl (h K fun _ _ h => h)
theorem takeH (i : Nat) {oi : Oper} {v : Value} {fuel : Nat} {listed : Array Bool} {a : Act} {w : World} (hi : ops[i]? = some oi)
    (hs : Region.noSelect ops = true) (hf : Region.free md ops listed i = true) (hr : (Region.ready md ops listed).contains i = true)
    (hQ : ∀ c a w, Q (.panic c) (a.put oi.dst v) w → Q (.panic c) a w) (hy : YieldsIf P ops S oi v a) (hS : S w)
    (h : wpAnyH P md ops Q S fuel (listed.setIfInBounds i true) (a.put oi.dst v) w) : wpAnyH P md ops Q S (fuel + 1) listed a w :=
  wpAnyH_take hi hs hf hr hQ hy hS h
theorem two {i j : Nat} {fuel : Nat} {listed : Array Bool} {a : Act} {w : World} (hr : Region.ready md ops listed = [i, j]) (h1 : wpOp P ops Q i (fun a' w' => S w' ∧ wpAnyH P md ops Q S fuel (listed.setIfInBounds i true) a' w') a w) (h2 : wpOp P ops Q j (fun a' w' => S w' ∧ wpAnyH P md ops Q S fuel (listed.setIfInBounds j true) a' w') a w) : wpAnyH P md ops Q S (fuel + 1) listed a w :=
  wpAnyH_all hr (by simp) (fun q hq => by simp at hq; rcases hq with rfl | rfl; exact h1; exact h2)
end
set_option maxHeartbeats 16000000 in
set_option maxRecDepth 20000 in
theorem wnG1 (k n : Int) (s : ByteArray) (k2 n2 : Int) (s2 : ByteArray) (h1 : decide (10000 < (s.size : Int)) = true) (w : World) (hT : Tab w) : Calls Tryd.prog 6 #[.agg #[.int .i64 k, .int .i64 n, .string s], .agg #[.int .i64 k2, .int .i64 n2, .string s2]] w fun e w' => e = .returned (.bool true) ∧ Below w.heap.size w w' := by
  have T0 := Lib.hid hT
  have D0 := Lib.hid (OD.start2 w 32 [.int .i64 k, .int .i64 n, .string s] [.int .i64 k2, .int .i64 n2, .string s2])
  have AL := Lib.hid (fun W hW => aliveW_calls W hW)
  clear hT 
  go_enter Tryd.func6, Tryd.ntmps6
  go_wp2_with (go_at_call 17; go_loud (with_reducible refine (AL.out _ (T0.out.on D0.out.bel)).mono ?_; rintro e wn1 ⟨rfl, hb⟩; have D1 := Lib.hid ((D0.out).on hb); clear hb; have u0 := (D1.out.blk _ (List.mem_cons_self)).2.cell 0 _ rfl; have uz0 := (D1.out.blk _ (List.mem_cons_self)).2.frozen 0; have u1 := (D1.out.blk _ (List.mem_cons_self)).2.cell 1 _ rfl; have uz1 := (D1.out.blk _ (List.mem_cons_self)).2.frozen 1; have u2 := (D1.out.blk _ (List.mem_cons_self)).2.cell 2 _ rfl; have uz2 := (D1.out.blk _ (List.mem_cons_self)).2.frozen 2; have ult := (D1.out).bl (List.mem_cons_self); have q0 := (D1.out.blk _ (List.mem_cons_of_mem _ (List.mem_cons_self))).2.cell 0 _ rfl; have qz0 := (D1.out.blk _ (List.mem_cons_of_mem _ (List.mem_cons_self))).2.frozen 0; have q1 := (D1.out.blk _ (List.mem_cons_of_mem _ (List.mem_cons_self))).2.cell 1 _ rfl; have qz1 := (D1.out.blk _ (List.mem_cons_of_mem _ (List.mem_cons_self))).2.frozen 1; have q2 := (D1.out.blk _ (List.mem_cons_of_mem _ (List.mem_cons_self))).2.cell 2 _ rfl; have qz2 := (D1.out.blk _ (List.mem_cons_of_mem _ (List.mem_cons_self))).2.frozen 2; have qlt := (D1.out).bl (List.mem_cons_of_mem _ (List.mem_cons_self))))
  go_ret
  exact ⟨rfl, D1.out.bel⟩
set_option maxHeartbeats 16000000 in
set_option maxRecDepth 20000 in
theorem wnG2 (k n : Int) (s : ByteArray) (k2 n2 : Int) (s2 : ByteArray) (h1 : decide (10000 < (s.size : Int)) = false) (h2 : decide (10000 < (s2.size : Int)) = true) (w : World) (hT : Tab w) : Calls Tryd.prog 6 #[.agg #[.int .i64 k, .int .i64 n, .string s], .agg #[.int .i64 k2, .int .i64 n2, .string s2]] w fun e w' => e = .returned (.bool true) ∧ Below w.heap.size w w' := by
  have T0 := Lib.hid hT
  have D0 := Lib.hid (OD.start2 w 32 [.int .i64 k, .int .i64 n, .string s] [.int .i64 k2, .int .i64 n2, .string s2])
  have AL := Lib.hid (fun W hW => aliveW_calls W hW)
  clear hT 
  go_enter Tryd.func6, Tryd.ntmps6
  go_wp2_with (go_at_call 17; go_loud (with_reducible refine (AL.out _ (T0.out.on D0.out.bel)).mono ?_; rintro e wn1 ⟨rfl, hb⟩; have D1 := Lib.hid ((D0.out).on hb); clear hb; have u0 := (D1.out.blk _ (List.mem_cons_self)).2.cell 0 _ rfl; have uz0 := (D1.out.blk _ (List.mem_cons_self)).2.frozen 0; have u1 := (D1.out.blk _ (List.mem_cons_self)).2.cell 1 _ rfl; have uz1 := (D1.out.blk _ (List.mem_cons_self)).2.frozen 1; have u2 := (D1.out.blk _ (List.mem_cons_self)).2.cell 2 _ rfl; have uz2 := (D1.out.blk _ (List.mem_cons_self)).2.frozen 2; have ult := (D1.out).bl (List.mem_cons_self); have q0 := (D1.out.blk _ (List.mem_cons_of_mem _ (List.mem_cons_self))).2.cell 0 _ rfl; have qz0 := (D1.out.blk _ (List.mem_cons_of_mem _ (List.mem_cons_self))).2.frozen 0; have q1 := (D1.out.blk _ (List.mem_cons_of_mem _ (List.mem_cons_self))).2.cell 1 _ rfl; have qz1 := (D1.out.blk _ (List.mem_cons_of_mem _ (List.mem_cons_self))).2.frozen 1; have q2 := (D1.out.blk _ (List.mem_cons_of_mem _ (List.mem_cons_self))).2.cell 2 _ rfl; have qz2 := (D1.out.blk _ (List.mem_cons_of_mem _ (List.mem_cons_self))).2.frozen 2; have qlt := (D1.out).bl (List.mem_cons_of_mem _ (List.mem_cons_self))))
  go_ret
  exact ⟨rfl, D1.out.bel⟩
set_option maxHeartbeats 16000000 in
set_option maxRecDepth 20000 in
theorem wnS (k n : Int) (s : ByteArray) (k2 n2 : Int) (s2 : ByteArray) (X S1 S2 S3 S4 S5 C R : ByteArray) (h1 : decide (10000 < (s.size : Int)) = false) (h2 : decide (10000 < (s2.size : Int)) = false) (hX : X.size ≤ 8) (XT' : ∀ W, Calls Tryd.prog 32 #[.agg #[.int .i64 k, .int .i64 n, .string s]] W fun e w' => e = .returned (.string X) ∧ Below W.heap.size W w') (YT' : ∀ W, Calls Tryd.prog 32 #[.agg #[.int .i64 k2, .int .i64 n2, .string s2]] W fun e w' => e = .returned (.string X) ∧ Below W.heap.size W w') (C1' : ∀ W, Calls Tryd.prog 18 #[.agg #[.int .i64 k, .int .i64 n, .string s]] W fun e w' => e = .returned (.string S1) ∧ Below W.heap.size W w') (C2' : ∀ W, Calls Tryd.prog 20 #[.agg #[.int .i64 k, .int .i64 n, .string s]] W fun e w' => e = .returned (.string S2) ∧ Below W.heap.size W w') (C3' : ∀ W, Calls Tryd.prog 22 #[.agg #[.int .i64 k, .int .i64 n, .string s]] W fun e w' => e = .returned (.string S3) ∧ Below W.heap.size W w') (C4' : ∀ W, Tab W → Calls Tryd.prog 24 #[.agg #[.int .i64 k, .int .i64 n, .string s], .agg #[.int .i64 k, .int .i64 n, .string s]] W fun e w' => e = .returned (.string S4) ∧ Below W.heap.size W w') (C5' : ∀ W, Tab W → Calls Tryd.prog 26 #[.agg #[.int .i64 k, .int .i64 n, .string s], .agg #[.int .i64 k, .int .i64 n, .string s]] W fun e w' => e = .returned (.string S5) ∧ Below W.heap.size W w') (E1' : ∀ W, Calls Tryd.prog 33 #[.string S1, .string (((⟨#[32, 97, 32]⟩ : ByteArray) ++ X) ++ (⟨#[32, 118, 97, 108, 117, 101]⟩ : ByteArray))] W fun e w' => e = .returned (.bool true) ∧ Below W.heap.size W w') (E2' : ∀ W, Calls Tryd.prog 33 #[.string S2, .string (((⟨#[32, 97, 32]⟩ : ByteArray) ++ X) ++ (⟨#[32, 118, 97, 108, 117, 101]⟩ : ByteArray))] W fun e w' => e = .returned (.bool true) ∧ Below W.heap.size W w') (E3' : ∀ W, Calls Tryd.prog 33 #[.string S3, .string (((⟨#[32, 97, 32]⟩ : ByteArray) ++ X) ++ (⟨#[32, 118, 97, 108, 117, 101]⟩ : ByteArray))] W fun e w' => e = .returned (.bool true) ∧ Below W.heap.size W w') (E4' : ∀ W, Calls Tryd.prog 33 #[.string S4, .string (((⟨#[32, 97, 32]⟩ : ByteArray) ++ X) ++ (⟨#[32, 118, 97, 108, 117, 101]⟩ : ByteArray))] W fun e w' => e = .returned (.bool true) ∧ Below W.heap.size W w') (E5' : ∀ W, Calls Tryd.prog 33 #[.string S5, .string (((⟨#[32, 97, 32]⟩ : ByteArray) ++ X) ++ (⟨#[32, 118, 97, 108, 117, 101]⟩ : ByteArray))] W fun e w' => e = .returned (.bool true) ∧ Below W.heap.size W w') (CC' : ∀ W, Calls Tryd.prog 28 #[.agg #[.int .i64 k, .int .i64 n, .string s], .agg #[.int .i64 k2, .int .i64 n2, .string s2]] W fun e w' => e = .returned (.string C) ∧ Below W.heap.size W w') (CD' : ∀ W, Calls Tryd.prog 28 #[.agg #[.int .i64 k2, .int .i64 n2, .string s2], .agg #[.int .i64 k, .int .i64 n, .string s]] W fun e w' => e = .returned (.string C) ∧ Below W.heap.size W w') (HX' : ∀ W, Calls Tryd.prog 34 #[.string C, .string X] W fun e w' => e = .returned (.bool true) ∧ Below W.heap.size W w') (AR' : ∀ W, Tab W → Calls Tryd.prog 24 #[.agg #[.int .i64 k, .int .i64 n, .string s], .agg #[.int .i64 k2, .int .i64 n2, .string s2]] W fun e w' => e = .returned (.string R) ∧ Below W.heap.size W w') (F1' : ∀ W, Calls Tryd.prog 33 #[.string R, .string (((⟨#[32, 97, 32]⟩ : ByteArray) ++ X) ++ (⟨#[32, 118, 97, 108, 117, 101]⟩ : ByteArray))] W fun e w' => e = .returned (.bool true) ∧ Below W.heap.size W w') (w : World) (hT : Tab w) : Calls Tryd.prog 6 #[.agg #[.int .i64 k, .int .i64 n, .string s], .agg #[.int .i64 k2, .int .i64 n2, .string s2]] w fun e w' => e = .returned (.bool true) ∧ Below w.heap.size w w' := by
  have T0 := Lib.hid hT
  have D0 := Lib.hid (OD.start2 w 32 [.int .i64 k, .int .i64 n, .string s] [.int .i64 k2, .int .i64 n2, .string s2])
  have AL := Lib.hid (fun W hW => aliveW_calls W hW)
  have XT := Lib.hid XT'
  have YT := Lib.hid YT'
  have C1 := Lib.hid C1'
  have C2 := Lib.hid C2'
  have C3 := Lib.hid C3'
  have C4 := Lib.hid C4'
  have C5 := Lib.hid C5'
  have E1 := Lib.hid E1'
  have E2 := Lib.hid E2'
  have E3 := Lib.hid E3'
  have E4 := Lib.hid E4'
  have E5 := Lib.hid E5'
  have CC := Lib.hid CC'
  have CD := Lib.hid CD'
  have HX := Lib.hid HX'
  have AR := Lib.hid AR'
  have F1 := Lib.hid F1'
  have ix0 : ∀ W, (Instr.index 36 (.agg #[.string S1, .string S2, .string S3, .string S4, .string S5]) (.int .i64 0)).run Tryd.prog W = .ok (.string S1) W := fun W => by kernel_rfl
  have ix1 : ∀ W, (Instr.index 36 (.agg #[.string S1, .string S2, .string S3, .string S4, .string S5]) (.int .i64 1)).run Tryd.prog W = .ok (.string S2) W := fun W => by kernel_rfl
  have ix2 : ∀ W, (Instr.index 36 (.agg #[.string S1, .string S2, .string S3, .string S4, .string S5]) (.int .i64 2)).run Tryd.prog W = .ok (.string S3) W := fun W => by kernel_rfl
  have ix3 : ∀ W, (Instr.index 36 (.agg #[.string S1, .string S2, .string S3, .string S4, .string S5]) (.int .i64 3)).run Tryd.prog W = .ok (.string S4) W := fun W => by kernel_rfl
  have ix4 : ∀ W, (Instr.index 36 (.agg #[.string S1, .string S2, .string S3, .string S4, .string S5]) (.int .i64 4)).run Tryd.prog W = .ok (.string S5) W := fun W => by kernel_rfl
  have bX1 : (9223372036854775807 < 3 + X.size) = False := eq_false (by omega)
  have bX2 : (9223372036854775807 < 3 + X.size + 6) = False := eq_false (by omega)
  clear hT XT' YT' C1' C2' C3' C4' C5' E1' E2' E3' E4' E5' CC' CD' HX' AR' F1' hX
  go_enter Tryd.func6, Tryd.ntmps6
  go_upto_region 5 with (go_at_call 17; go_loud (with_reducible refine (AL.out _ (T0.out.on D0.out.bel)).mono ?_; rintro e wn1 ⟨rfl, hb⟩; have D1 := Lib.hid ((D0.out).on hb); clear hb; have u0 := (D1.out.blk _ (List.mem_cons_self)).2.cell 0 _ rfl; have uz0 := (D1.out.blk _ (List.mem_cons_self)).2.frozen 0; have u1 := (D1.out.blk _ (List.mem_cons_self)).2.cell 1 _ rfl; have uz1 := (D1.out.blk _ (List.mem_cons_self)).2.frozen 1; have u2 := (D1.out.blk _ (List.mem_cons_self)).2.cell 2 _ rfl; have uz2 := (D1.out.blk _ (List.mem_cons_self)).2.frozen 2; have ult := (D1.out).bl (List.mem_cons_self); have q0 := (D1.out.blk _ (List.mem_cons_of_mem _ (List.mem_cons_self))).2.cell 0 _ rfl; have qz0 := (D1.out.blk _ (List.mem_cons_of_mem _ (List.mem_cons_self))).2.frozen 0; have q1 := (D1.out.blk _ (List.mem_cons_of_mem _ (List.mem_cons_self))).2.cell 1 _ rfl; have qz1 := (D1.out.blk _ (List.mem_cons_of_mem _ (List.mem_cons_self))).2.frozen 1; have q2 := (D1.out.blk _ (List.mem_cons_of_mem _ (List.mem_cons_self))).2.cell 2 _ rfl; have qz2 := (D1.out.blk _ (List.mem_cons_of_mem _ (List.mem_cons_self))).2.frozen 2; have qlt := (D1.out).bl (List.mem_cons_of_mem _ (List.mem_cons_self))))
  have hu := Tryd.underlying32
  have hBA : Below wn1.heap.size wn1 ({ wn1 with drawn := wn1.drawn + 1 } : World) := ⟨rfl, rfl, rfl, Nat.le_refl _, fun _ _ => rfl⟩
  refine wp_region_held (S := Below wn1.heap.size wn1) (by kernel_rfl) ?_
  have hSA := hBA
  generalize ({ wn1 with drawn := wn1.drawn + 1 } : World) = wA at hSA hBA ⊢
  have hleA := D1.out.bel.size
  have hslA := hSA.size
  have qaA0 : ∀ W, Below wn1.heap.size wn1 W → W.cell? ⟨w.heap.size, 0, none⟩ = some (.int .i64 k) := fun W hW => ((D1.out.on hW).blk _ (List.mem_cons_of_mem _ (List.mem_cons_self))).2.cell 0 _ rfl
  have qaA1 : ∀ W, Below wn1.heap.size wn1 W → W.cell? ⟨w.heap.size, 1, none⟩ = some (.int .i64 n) := fun W hW => ((D1.out.on hW).blk _ (List.mem_cons_of_mem _ (List.mem_cons_self))).2.cell 1 _ rfl
  have qaA2 : ∀ W, Below wn1.heap.size wn1 W → W.cell? ⟨w.heap.size, 2, none⟩ = some (.string s) := fun W hW => ((D1.out.on hW).blk _ (List.mem_cons_of_mem _ (List.mem_cons_self))).2.cell 2 _ rfl
  have uaA0 : ∀ W, Below wn1.heap.size wn1 W → W.cell? ⟨w.heap.size + 1, 0, none⟩ = some (.int .i64 k2) := fun W hW => ((D1.out.on hW).blk _ (List.mem_cons_self)).2.cell 0 _ rfl
  have uaA1 : ∀ W, Below wn1.heap.size wn1 W → W.cell? ⟨w.heap.size + 1, 1, none⟩ = some (.int .i64 n2) := fun W hW => ((D1.out.on hW).blk _ (List.mem_cons_self)).2.cell 1 _ rfl
  have uaA2 : ∀ W, Below wn1.heap.size wn1 W → W.cell? ⟨w.heap.size + 1, 2, none⟩ = some (.string s2) := fun W hW => ((D1.out.on hW).blk _ (List.mem_cons_self)).2.cell 2 _ rfl
  refine takeH 0 (oi := ⟨some 24, _, _, _, _, _⟩) (v := ?_) rfl (by kernel_rfl) (by kernel_rfl) (by kernel_rfl) (fun _ _ _ h => h) (Or.inl ⟨by rfl, ?hyA1⟩) hSA ?restA1
  case hyA1 => (intro W hW; (try dsimp only at hW); go_simp; try with_reducible rfl)
  try simp only [Act.put, List.setIfInBounds_toArray, List.set_cons_zero, List.set_cons_succ]
  refine takeH 2 (oi := ⟨some 26, _, _, _, _, _⟩) (v := ?_) rfl (by kernel_rfl) (by kernel_rfl) (by kernel_rfl) (fun _ _ _ h => h) (Or.inl ⟨by rfl, ?hyA2⟩) hSA ?restA2
  case hyA2 => (intro W hW; (try dsimp only at hW); go_simp; try with_reducible rfl)
  try simp only [Act.put, List.setIfInBounds_toArray, List.set_cons_zero, List.set_cons_succ]
  refine one (i := 1) (by kernel_rfl) ?_
  refine wpOp_wanted rfl (by rfl) fun K hK => ?_
  go_simp
  with_reducible refine (XT.out _).mono ?_
  rintro e wA3 ⟨rfl, hb⟩
  have SA3 : Below wn1.heap.size wn1 wA3 := hSA.trans (hb.mono hSA.size)
  clear hb
  refine hK _ _ ⟨SA3, ?_⟩
  clear hK K
  try simp only [Act.put, List.setIfInBounds_toArray, List.set_cons_zero, List.set_cons_succ]
  refine one (i := 3) (by kernel_rfl) ?_
  refine wpOp_wanted rfl (by rfl) fun K hK => ?_
  go_simp
  with_reducible refine (YT.out _).mono ?_
  rintro e wA4 ⟨rfl, hb⟩
  have SA4 : Below wn1.heap.size wn1 wA4 := SA3.trans (hb.mono SA3.size)
  clear hb
  refine hK _ _ ⟨SA4, ?_⟩
  clear hK K
  try simp only [Act.put, List.setIfInBounds_toArray, List.set_cons_zero, List.set_cons_succ]
  refine takeH 4 (oi := ⟨some 5, _, _, _, _, _⟩) (v := ?_) rfl (by kernel_rfl) (by kernel_rfl) (by kernel_rfl) (fun _ _ _ h => h) (Or.inl ⟨by rfl, ?hyA5⟩) SA4 ?restA5
  case hyA5 => (intro W hW; (try dsimp only at hW); go_simp; try with_reducible rfl)
  try simp only [Act.put, List.setIfInBounds_toArray, List.set_cons_zero, List.set_cons_succ]
  refine takeH 5 (oi := ⟨some 6, _, _, _, _, _⟩) (v := ?_) rfl (by kernel_rfl) (by kernel_rfl) (by kernel_rfl) (fun _ _ _ h => h) (Or.inl ⟨by rfl, ?hyA6⟩) SA4 ?restA6
  case hyA6 => (intro W hW; (try dsimp only at hW); go_simp; try with_reducible rfl)
  try simp only [Act.put, List.setIfInBounds_toArray, List.set_cons_zero, List.set_cons_succ]
  refine wpAnyH_done (by kernel_rfl) ?_ _
  clear qaA0 qaA1 qaA2 uaA0 uaA1 uaA2
  have D2 := Lib.hid (D1.out.on SA4)
  generalize wA4 = W3 at D2 ⊢
  go_upto_region 6 with (fail)
  have hBB : Below W3.heap.size W3 ({ W3 with drawn := W3.drawn + 1 } : World) := ⟨rfl, rfl, rfl, Nat.le_refl _, fun _ _ => rfl⟩
  refine wp_region_held (S := Below W3.heap.size W3) (by kernel_rfl) ?_
  have hSB := hBB
  generalize ({ W3 with drawn := W3.drawn + 1 } : World) = wB at hSB hBB ⊢
  have hleB := D2.out.bel.size
  have hslB := hSB.size
  have qaB0 : ∀ W, Below W3.heap.size W3 W → W.cell? ⟨w.heap.size, 0, none⟩ = some (.int .i64 k) := fun W hW => ((D2.out.on hW).blk _ (List.mem_cons_of_mem _ (List.mem_cons_self))).2.cell 0 _ rfl
  have qaB1 : ∀ W, Below W3.heap.size W3 W → W.cell? ⟨w.heap.size, 1, none⟩ = some (.int .i64 n) := fun W hW => ((D2.out.on hW).blk _ (List.mem_cons_of_mem _ (List.mem_cons_self))).2.cell 1 _ rfl
  have qaB2 : ∀ W, Below W3.heap.size W3 W → W.cell? ⟨w.heap.size, 2, none⟩ = some (.string s) := fun W hW => ((D2.out.on hW).blk _ (List.mem_cons_of_mem _ (List.mem_cons_self))).2.cell 2 _ rfl
  refine takeH 0 (oi := ⟨some 28, _, _, _, _, _⟩) (v := ?_) rfl (by kernel_rfl) (by kernel_rfl) (by kernel_rfl) (fun _ _ _ h => h) (Or.inl ⟨by rfl, ?hyB7⟩) hSB ?restB7
  case hyB7 => (intro W hW; (try dsimp only at hW); go_simp; try with_reducible rfl)
  try simp only [Act.put, List.setIfInBounds_toArray, List.set_cons_zero, List.set_cons_succ]
  refine takeH 2 (oi := ⟨some 30, _, _, _, _, _⟩) (v := ?_) rfl (by kernel_rfl) (by kernel_rfl) (by kernel_rfl) (fun _ _ _ h => h) (Or.inl ⟨by rfl, ?hyB8⟩) hSB ?restB8
  case hyB8 => (intro W hW; (try dsimp only at hW); go_simp; try with_reducible rfl)
  try simp only [Act.put, List.setIfInBounds_toArray, List.set_cons_zero, List.set_cons_succ]
  refine takeH 4 (oi := ⟨some 32, _, _, _, _, _⟩) (v := ?_) rfl (by kernel_rfl) (by kernel_rfl) (by kernel_rfl) (fun _ _ _ h => h) (Or.inl ⟨by rfl, ?hyB9⟩) hSB ?restB9
  case hyB9 => (intro W hW; (try dsimp only at hW); go_simp; try with_reducible rfl)
  try simp only [Act.put, List.setIfInBounds_toArray, List.set_cons_zero, List.set_cons_succ]
  refine takeH 6 (oi := ⟨some 34, _, _, _, _, _⟩) (v := ?_) rfl (by kernel_rfl) (by kernel_rfl) (by kernel_rfl) (fun _ _ _ h => h) (Or.inl ⟨by rfl, ?hyB10⟩) hSB ?restB10
  case hyB10 => (intro W hW; (try dsimp only at hW); go_simp; try with_reducible rfl)
  try simp only [Act.put, List.setIfInBounds_toArray, List.set_cons_zero, List.set_cons_succ]
  refine takeH 7 (oi := ⟨some 35, _, _, _, _, _⟩) (v := ?_) rfl (by kernel_rfl) (by kernel_rfl) (by kernel_rfl) (fun _ _ _ h => h) (Or.inl ⟨by rfl, ?hyB11⟩) hSB ?restB11
  case hyB11 => (intro W hW; (try dsimp only at hW); go_simp; try with_reducible rfl)
  try simp only [Act.put, List.setIfInBounds_toArray, List.set_cons_zero, List.set_cons_succ]
  refine takeH 9 (oi := ⟨some 37, _, _, _, _, _⟩) (v := ?_) rfl (by kernel_rfl) (by kernel_rfl) (by kernel_rfl) (fun _ _ _ h => h) (Or.inl ⟨by rfl, ?hyB12⟩) hSB ?restB12
  case hyB12 => (intro W hW; (try dsimp only at hW); go_simp; try with_reducible rfl)
  try simp only [Act.put, List.setIfInBounds_toArray, List.set_cons_zero, List.set_cons_succ]
  refine takeH 10 (oi := ⟨some 38, _, _, _, _, _⟩) (v := ?_) rfl (by kernel_rfl) (by kernel_rfl) (by kernel_rfl) (fun _ _ _ h => h) (Or.inl ⟨by rfl, ?hyB13⟩) hSB ?restB13
  case hyB13 => (intro W hW; (try dsimp only at hW); go_simp; try with_reducible rfl)
  try simp only [Act.put, List.setIfInBounds_toArray, List.set_cons_zero, List.set_cons_succ]
  refine takeH 13 (oi := ⟨some 41, _, _, _, _, _⟩) (v := ?_) rfl (by kernel_rfl) (by kernel_rfl) (by kernel_rfl) (fun _ _ _ h => h) (Or.inl ⟨by rfl, ?hyB14⟩) hSB ?restB14
  case hyB14 => (intro W hW; (try dsimp only at hW); go_simp; try with_reducible rfl)
  try simp only [Act.put, List.setIfInBounds_toArray, List.set_cons_zero, List.set_cons_succ]
  refine one (i := 1) (by kernel_rfl) ?_
  refine wpOp_wanted rfl (by rfl) fun K hK => ?_
  go_simp
  with_reducible refine (C1.out _).mono ?_
  rintro e wB15 ⟨rfl, hb⟩
  have SB15 : Below W3.heap.size W3 wB15 := hSB.trans (hb.mono hSB.size)
  clear hb
  refine hK _ _ ⟨SB15, ?_⟩
  clear hK K
  try simp only [Act.put, List.setIfInBounds_toArray, List.set_cons_zero, List.set_cons_succ]
  refine one (i := 3) (by kernel_rfl) ?_
  refine wpOp_wanted rfl (by rfl) fun K hK => ?_
  go_simp
  with_reducible refine (C2.out _).mono ?_
  rintro e wB16 ⟨rfl, hb⟩
  have SB16 : Below W3.heap.size W3 wB16 := SB15.trans (hb.mono SB15.size)
  clear hb
  refine hK _ _ ⟨SB16, ?_⟩
  clear hK K
  try simp only [Act.put, List.setIfInBounds_toArray, List.set_cons_zero, List.set_cons_succ]
  refine one (i := 5) (by kernel_rfl) ?_
  refine wpOp_wanted rfl (by rfl) fun K hK => ?_
  go_simp
  with_reducible refine (C3.out _).mono ?_
  rintro e wB17 ⟨rfl, hb⟩
  have SB17 : Below W3.heap.size W3 wB17 := SB16.trans (hb.mono SB16.size)
  clear hb
  refine hK _ _ ⟨SB17, ?_⟩
  clear hK K
  try simp only [Act.put, List.setIfInBounds_toArray, List.set_cons_zero, List.set_cons_succ]
  refine one (i := 8) (by kernel_rfl) ?_
  refine wpOp_wanted rfl (by rfl) fun K hK => ?_
  go_simp
  with_reducible refine (C4.out _ (T0.out.on (D2.out.on SB17).bel)).mono ?_
  rintro e wB18 ⟨rfl, hb⟩
  have SB18 : Below W3.heap.size W3 wB18 := SB17.trans (hb.mono SB17.size)
  clear hb
  refine hK _ _ ⟨SB18, ?_⟩
  clear hK K
  try simp only [Act.put, List.setIfInBounds_toArray, List.set_cons_zero, List.set_cons_succ]
  refine one (i := 11) (by kernel_rfl) ?_
  refine wpOp_wanted rfl (by rfl) fun K hK => ?_
  go_simp
  with_reducible refine (C5.out _ (T0.out.on (D2.out.on SB18).bel)).mono ?_
  rintro e wB19 ⟨rfl, hb⟩
  have SB19 : Below W3.heap.size W3 wB19 := SB18.trans (hb.mono SB18.size)
  clear hb
  refine hK _ _ ⟨SB19, ?_⟩
  clear hK K
  try simp only [Act.put, List.setIfInBounds_toArray, List.set_cons_zero, List.set_cons_succ]
  refine takeH 12 (oi := ⟨some 40, _, _, _, _, _⟩) (v := ?_) rfl (by kernel_rfl) (by kernel_rfl) (by kernel_rfl) (fun _ _ _ h => h) (Or.inl ⟨by rfl, ?hyB20⟩) SB19 ?restB20
  case hyB20 => (intro W hW; (try dsimp only at hW); go_simp; try with_reducible rfl)
  try simp only [Act.put, List.setIfInBounds_toArray, List.set_cons_zero, List.set_cons_succ]
  refine wpAnyH_done (by kernel_rfl) ?_ _
  clear qaB0 qaB1 qaB2
  have D3 := Lib.hid (D2.out.on SB19)
  generalize wB19 = W4 at D3 ⊢
  go_wp2
  go_loopw [8, 41] (fun tv iv wr => ∃ j : Nat, j ≤ 5 ∧ iv = .int .i64 j ∧ Hid (OD w [(w.heap.size + 1, 32, [.int .i64 k2, .int .i64 n2, .string s2]), (w.heap.size, 32, [.int .i64 k, .int .i64 n, .string s])] wr)) (fun _ iv _ => 5 - (intOf iv).toNat)
  case atStart => exact ⟨0, by omega, rfl, D3⟩
  case round =>
    obtain ⟨j, hj, rfl, HD⟩ := hrel
    by_cases e0 : j = 0
    · subst e0
      clear hj
      go_wp2_with (go_at_call 33; go_loud (with_reducible refine (E1.out _).mono ?_; rintro e wn4 ⟨rfl, hb⟩; have D4 := Lib.hid ((HD.out).on hb); clear hb))
      go_roundw
      case rel => exact ⟨1, by omega, by first | rfl | go_num, D4⟩
      case measure => simp [intOf]
    by_cases e1 : j = 1
    · subst e1
      clear hj
      go_wp2_with (go_at_call 33; go_loud (with_reducible refine (E2.out _).mono ?_; rintro e wn4 ⟨rfl, hb⟩; have D4 := Lib.hid ((HD.out).on hb); clear hb))
      go_roundw
      case rel => exact ⟨2, by omega, by first | rfl | go_num, D4⟩
      case measure => simp [intOf]
    by_cases e2 : j = 2
    · subst e2
      clear hj
      go_wp2_with (go_at_call 33; go_loud (with_reducible refine (E3.out _).mono ?_; rintro e wn4 ⟨rfl, hb⟩; have D4 := Lib.hid ((HD.out).on hb); clear hb))
      go_roundw
      case rel => exact ⟨3, by omega, by first | rfl | go_num, D4⟩
      case measure => simp [intOf]
    by_cases e3 : j = 3
    · subst e3
      clear hj
      go_wp2_with (go_at_call 33; go_loud (with_reducible refine (E4.out _).mono ?_; rintro e wn4 ⟨rfl, hb⟩; have D4 := Lib.hid ((HD.out).on hb); clear hb))
      go_roundw
      case rel => exact ⟨4, by omega, by first | rfl | go_num, D4⟩
      case measure => simp [intOf]
    by_cases e4 : j = 4
    · subst e4
      clear hj
      go_wp2_with (go_at_call 33; go_loud (with_reducible refine (E5.out _).mono ?_; rintro e wn4 ⟨rfl, hb⟩; have D4 := Lib.hid ((HD.out).on hb); clear hb))
      go_roundw
      case rel => exact ⟨5, by omega, by first | rfl | go_num, D4⟩
      case measure => simp [intOf]
    obtain rfl : j = 5 := by omega
    go_upto_region 12 with (fail)
    have hBE : Below wr.heap.size wr ({ wr with drawn := wr.drawn + 1 } : World) := ⟨rfl, rfl, rfl, Nat.le_refl _, fun _ _ => rfl⟩
    refine wp_region_held (S := Below wr.heap.size wr) (by kernel_rfl) ?_
    have hSE := hBE
    generalize ({ wr with drawn := wr.drawn + 1 } : World) = wE at hSE hBE ⊢
    have hleE := HD.out.bel.size
    have hslE := hSE.size
    have qaE0 : ∀ W, Below wr.heap.size wr W → W.cell? ⟨w.heap.size, 0, none⟩ = some (.int .i64 k) := fun W hW => ((HD.out.on hW).blk _ (List.mem_cons_of_mem _ (List.mem_cons_self))).2.cell 0 _ rfl
    have qaE1 : ∀ W, Below wr.heap.size wr W → W.cell? ⟨w.heap.size, 1, none⟩ = some (.int .i64 n) := fun W hW => ((HD.out.on hW).blk _ (List.mem_cons_of_mem _ (List.mem_cons_self))).2.cell 1 _ rfl
    have qaE2 : ∀ W, Below wr.heap.size wr W → W.cell? ⟨w.heap.size, 2, none⟩ = some (.string s) := fun W hW => ((HD.out.on hW).blk _ (List.mem_cons_of_mem _ (List.mem_cons_self))).2.cell 2 _ rfl
    have uaE0 : ∀ W, Below wr.heap.size wr W → W.cell? ⟨w.heap.size + 1, 0, none⟩ = some (.int .i64 k2) := fun W hW => ((HD.out.on hW).blk _ (List.mem_cons_self)).2.cell 0 _ rfl
    have uaE1 : ∀ W, Below wr.heap.size wr W → W.cell? ⟨w.heap.size + 1, 1, none⟩ = some (.int .i64 n2) := fun W hW => ((HD.out.on hW).blk _ (List.mem_cons_self)).2.cell 1 _ rfl
    have uaE2 : ∀ W, Below wr.heap.size wr W → W.cell? ⟨w.heap.size + 1, 2, none⟩ = some (.string s2) := fun W hW => ((HD.out.on hW).blk _ (List.mem_cons_self)).2.cell 2 _ rfl
    refine takeH 0 (oi := ⟨some 51, _, _, _, _, _⟩) (v := ?_) rfl (by kernel_rfl) (by kernel_rfl) (by kernel_rfl) (fun _ _ _ h => h) (Or.inl ⟨by rfl, ?hyE21⟩) hSE ?restE21
    case hyE21 => (intro W hW; (try dsimp only at hW); go_simp; try with_reducible rfl)
    try simp only [Act.put, List.setIfInBounds_toArray, List.set_cons_zero, List.set_cons_succ]
    refine takeH 1 (oi := ⟨some 52, _, _, _, _, _⟩) (v := ?_) rfl (by kernel_rfl) (by kernel_rfl) (by kernel_rfl) (fun _ _ _ h => h) (Or.inl ⟨by rfl, ?hyE22⟩) hSE ?restE22
    case hyE22 => (intro W hW; (try dsimp only at hW); go_simp; try with_reducible rfl)
    try simp only [Act.put, List.setIfInBounds_toArray, List.set_cons_zero, List.set_cons_succ]
    refine takeH 3 (oi := ⟨some 54, _, _, _, _, _⟩) (v := ?_) rfl (by kernel_rfl) (by kernel_rfl) (by kernel_rfl) (fun _ _ _ h => h) (Or.inl ⟨by rfl, ?hyE23⟩) hSE ?restE23
    case hyE23 => (intro W hW; (try dsimp only at hW); go_simp; try with_reducible rfl)
    try simp only [Act.put, List.setIfInBounds_toArray, List.set_cons_zero, List.set_cons_succ]
    refine takeH 4 (oi := ⟨some 55, _, _, _, _, _⟩) (v := ?_) rfl (by kernel_rfl) (by kernel_rfl) (by kernel_rfl) (fun _ _ _ h => h) (Or.inl ⟨by rfl, ?hyE24⟩) hSE ?restE24
    case hyE24 => (intro W hW; (try dsimp only at hW); go_simp; try with_reducible rfl)
    try simp only [Act.put, List.setIfInBounds_toArray, List.set_cons_zero, List.set_cons_succ]
    refine one (i := 2) (by kernel_rfl) ?_
    refine wpOp_wanted rfl (by rfl) fun K hK => ?_
    go_simp
    with_reducible refine (CC.out _).mono ?_
    rintro e wE25 ⟨rfl, hb⟩
    have SE25 : Below wr.heap.size wr wE25 := hSE.trans (hb.mono hSE.size)
    clear hb
    refine hK _ _ ⟨SE25, ?_⟩
    clear hK K
    try simp only [Act.put, List.setIfInBounds_toArray, List.set_cons_zero, List.set_cons_succ]
    refine one (i := 5) (by kernel_rfl) ?_
    refine wpOp_wanted rfl (by rfl) fun K hK => ?_
    go_simp
    with_reducible refine (CD.out _).mono ?_
    rintro e wE26 ⟨rfl, hb⟩
    have SE26 : Below wr.heap.size wr wE26 := SE25.trans (hb.mono SE25.size)
    clear hb
    refine hK _ _ ⟨SE26, ?_⟩
    clear hK K
    try simp only [Act.put, List.setIfInBounds_toArray, List.set_cons_zero, List.set_cons_succ]
    refine takeH 6 (oi := ⟨some 9, _, _, _, _, _⟩) (v := ?_) rfl (by kernel_rfl) (by kernel_rfl) (by kernel_rfl) (fun _ _ _ h => h) (Or.inl ⟨by rfl, ?hyE27⟩) SE26 ?restE27
    case hyE27 => (intro W hW; (try dsimp only at hW); go_simp; try with_reducible rfl)
    try simp only [Act.put, List.setIfInBounds_toArray, List.set_cons_zero, List.set_cons_succ]
    refine takeH 7 (oi := ⟨some 10, _, _, _, _, _⟩) (v := ?_) rfl (by kernel_rfl) (by kernel_rfl) (by kernel_rfl) (fun _ _ _ h => h) (Or.inl ⟨by rfl, ?hyE28⟩) SE26 ?restE28
    case hyE28 => (intro W hW; (try dsimp only at hW); go_simp; try with_reducible rfl)
    try simp only [Act.put, List.setIfInBounds_toArray, List.set_cons_zero, List.set_cons_succ]
    refine wpAnyH_done (by kernel_rfl) ?_ _
    clear qaE0 qaE1 qaE2 uaE0 uaE1 uaE2
    have D5 := Lib.hid (HD.out.on SE26)
    generalize wE26 = W5 at D5 ⊢
    have u0 := (D5.out.blk _ (List.mem_cons_self)).2.cell 0 _ rfl; have uz0 := (D5.out.blk _ (List.mem_cons_self)).2.frozen 0; have u1 := (D5.out.blk _ (List.mem_cons_self)).2.cell 1 _ rfl; have uz1 := (D5.out.blk _ (List.mem_cons_self)).2.frozen 1; have u2 := (D5.out.blk _ (List.mem_cons_self)).2.cell 2 _ rfl; have uz2 := (D5.out.blk _ (List.mem_cons_self)).2.frozen 2; have ult := (D5.out).bl (List.mem_cons_self); have q0 := (D5.out.blk _ (List.mem_cons_of_mem _ (List.mem_cons_self))).2.cell 0 _ rfl; have qz0 := (D5.out.blk _ (List.mem_cons_of_mem _ (List.mem_cons_self))).2.frozen 0; have q1 := (D5.out.blk _ (List.mem_cons_of_mem _ (List.mem_cons_self))).2.cell 1 _ rfl; have qz1 := (D5.out.blk _ (List.mem_cons_of_mem _ (List.mem_cons_self))).2.frozen 1; have q2 := (D5.out.blk _ (List.mem_cons_of_mem _ (List.mem_cons_self))).2.cell 2 _ rfl; have qz2 := (D5.out.blk _ (List.mem_cons_of_mem _ (List.mem_cons_self))).2.frozen 2; have qlt := (D5.out).bl (List.mem_cons_of_mem _ (List.mem_cons_self))
    go_wp2_with (first | (go_at_call 34; go_loud (with_reducible refine (HX.out _).mono ?_; rintro e wn6 ⟨rfl, hb⟩; have D6 := Lib.hid ((D5.out).on hb); clear hb; have u0 := (D6.out.blk _ (List.mem_cons_self)).2.cell 0 _ rfl; have uz0 := (D6.out.blk _ (List.mem_cons_self)).2.frozen 0; have u1 := (D6.out.blk _ (List.mem_cons_self)).2.cell 1 _ rfl; have uz1 := (D6.out.blk _ (List.mem_cons_self)).2.frozen 1; have u2 := (D6.out.blk _ (List.mem_cons_self)).2.cell 2 _ rfl; have uz2 := (D6.out.blk _ (List.mem_cons_self)).2.frozen 2; have ult := (D6.out).bl (List.mem_cons_self); have q0 := (D6.out.blk _ (List.mem_cons_of_mem _ (List.mem_cons_self))).2.cell 0 _ rfl; have qz0 := (D6.out.blk _ (List.mem_cons_of_mem _ (List.mem_cons_self))).2.frozen 0; have q1 := (D6.out.blk _ (List.mem_cons_of_mem _ (List.mem_cons_self))).2.cell 1 _ rfl; have qz1 := (D6.out.blk _ (List.mem_cons_of_mem _ (List.mem_cons_self))).2.frozen 1; have q2 := (D6.out.blk _ (List.mem_cons_of_mem _ (List.mem_cons_self))).2.cell 2 _ rfl; have qz2 := (D6.out.blk _ (List.mem_cons_of_mem _ (List.mem_cons_self))).2.frozen 2; have qlt := (D6.out).bl (List.mem_cons_of_mem _ (List.mem_cons_self)))) | (go_at_call 34; go_loud (with_reducible refine (HX.out _).mono ?_; rintro e wn7 ⟨rfl, hb⟩; have D7 := Lib.hid ((D6.out).on hb); clear hb; have u0 := (D7.out.blk _ (List.mem_cons_self)).2.cell 0 _ rfl; have uz0 := (D7.out.blk _ (List.mem_cons_self)).2.frozen 0; have u1 := (D7.out.blk _ (List.mem_cons_self)).2.cell 1 _ rfl; have uz1 := (D7.out.blk _ (List.mem_cons_self)).2.frozen 1; have u2 := (D7.out.blk _ (List.mem_cons_self)).2.cell 2 _ rfl; have uz2 := (D7.out.blk _ (List.mem_cons_self)).2.frozen 2; have ult := (D7.out).bl (List.mem_cons_self); have q0 := (D7.out.blk _ (List.mem_cons_of_mem _ (List.mem_cons_self))).2.cell 0 _ rfl; have qz0 := (D7.out.blk _ (List.mem_cons_of_mem _ (List.mem_cons_self))).2.frozen 0; have q1 := (D7.out.blk _ (List.mem_cons_of_mem _ (List.mem_cons_self))).2.cell 1 _ rfl; have qz1 := (D7.out.blk _ (List.mem_cons_of_mem _ (List.mem_cons_self))).2.frozen 1; have q2 := (D7.out.blk _ (List.mem_cons_of_mem _ (List.mem_cons_self))).2.cell 2 _ rfl; have qz2 := (D7.out.blk _ (List.mem_cons_of_mem _ (List.mem_cons_self))).2.frozen 2; have qlt := (D7.out).bl (List.mem_cons_of_mem _ (List.mem_cons_self)))) | (go_at_call 24; go_loud (with_reducible refine (AR.out _ (T0.out.on D7.out.bel)).mono ?_; rintro e wn8 ⟨rfl, hb⟩; have D8 := Lib.hid ((D7.out).on hb); clear hb)) | (go_at_call 33; go_loud (with_reducible refine (F1.out _).mono ?_; rintro e wn9 ⟨rfl, hb⟩; have D9 := Lib.hid ((D8.out).on hb); clear hb)))
    go_ret
    exact ⟨rfl, D9.out.bel⟩
set_option maxHeartbeats 16000000 in
set_option maxRecDepth 20000 in
theorem wnD1 (k n : Int) (s : ByteArray) (k2 n2 : Int) (s2 : ByteArray) (X Y S1 S2 S3 S4 S5 C D R : ByteArray) (h1 : decide (10000 < (s.size : Int)) = false) (h2 : decide (10000 < (s2.size : Int)) = false) (hX : X.size ≤ 8) (hY : Y.size ≤ 8) (hlen : D.size = C.size) (hcd : (C.toList == D.toList) = false) (hxy : (X.toList == Y.toList) = false) (XT' : ∀ W, Calls Tryd.prog 32 #[.agg #[.int .i64 k, .int .i64 n, .string s]] W fun e w' => e = .returned (.string X) ∧ Below W.heap.size W w') (YT' : ∀ W, Calls Tryd.prog 32 #[.agg #[.int .i64 k2, .int .i64 n2, .string s2]] W fun e w' => e = .returned (.string Y) ∧ Below W.heap.size W w') (C1' : ∀ W, Calls Tryd.prog 18 #[.agg #[.int .i64 k, .int .i64 n, .string s]] W fun e w' => e = .returned (.string S1) ∧ Below W.heap.size W w') (C2' : ∀ W, Calls Tryd.prog 20 #[.agg #[.int .i64 k, .int .i64 n, .string s]] W fun e w' => e = .returned (.string S2) ∧ Below W.heap.size W w') (C3' : ∀ W, Calls Tryd.prog 22 #[.agg #[.int .i64 k, .int .i64 n, .string s]] W fun e w' => e = .returned (.string S3) ∧ Below W.heap.size W w') (C4' : ∀ W, Tab W → Calls Tryd.prog 24 #[.agg #[.int .i64 k, .int .i64 n, .string s], .agg #[.int .i64 k, .int .i64 n, .string s]] W fun e w' => e = .returned (.string S4) ∧ Below W.heap.size W w') (C5' : ∀ W, Tab W → Calls Tryd.prog 26 #[.agg #[.int .i64 k, .int .i64 n, .string s], .agg #[.int .i64 k, .int .i64 n, .string s]] W fun e w' => e = .returned (.string S5) ∧ Below W.heap.size W w') (E1' : ∀ W, Calls Tryd.prog 33 #[.string S1, .string (((⟨#[32, 97, 32]⟩ : ByteArray) ++ X) ++ (⟨#[32, 118, 97, 108, 117, 101]⟩ : ByteArray))] W fun e w' => e = .returned (.bool true) ∧ Below W.heap.size W w') (E2' : ∀ W, Calls Tryd.prog 33 #[.string S2, .string (((⟨#[32, 97, 32]⟩ : ByteArray) ++ X) ++ (⟨#[32, 118, 97, 108, 117, 101]⟩ : ByteArray))] W fun e w' => e = .returned (.bool true) ∧ Below W.heap.size W w') (E3' : ∀ W, Calls Tryd.prog 33 #[.string S3, .string (((⟨#[32, 97, 32]⟩ : ByteArray) ++ X) ++ (⟨#[32, 118, 97, 108, 117, 101]⟩ : ByteArray))] W fun e w' => e = .returned (.bool true) ∧ Below W.heap.size W w') (E4' : ∀ W, Calls Tryd.prog 33 #[.string S4, .string (((⟨#[32, 97, 32]⟩ : ByteArray) ++ X) ++ (⟨#[32, 118, 97, 108, 117, 101]⟩ : ByteArray))] W fun e w' => e = .returned (.bool true) ∧ Below W.heap.size W w') (E5' : ∀ W, Calls Tryd.prog 33 #[.string S5, .string (((⟨#[32, 97, 32]⟩ : ByteArray) ++ X) ++ (⟨#[32, 118, 97, 108, 117, 101]⟩ : ByteArray))] W fun e w' => e = .returned (.bool true) ∧ Below W.heap.size W w') (CC' : ∀ W, Calls Tryd.prog 28 #[.agg #[.int .i64 k, .int .i64 n, .string s], .agg #[.int .i64 k2, .int .i64 n2, .string s2]] W fun e w' => e = .returned (.string C) ∧ Below W.heap.size W w') (CD' : ∀ W, Calls Tryd.prog 28 #[.agg #[.int .i64 k2, .int .i64 n2, .string s2], .agg #[.int .i64 k, .int .i64 n, .string s]] W fun e w' => e = .returned (.string D) ∧ Below W.heap.size W w') (HX' : ∀ W, Calls Tryd.prog 34 #[.string C, .string X] W fun e w' => e = .returned (.bool true) ∧ Below W.heap.size W w') (HY' : ∀ W, Calls Tryd.prog 34 #[.string C, .string Y] W fun e w' => e = .returned (.bool true) ∧ Below W.heap.size W w') (AR' : ∀ W, Tab W → Calls Tryd.prog 24 #[.agg #[.int .i64 k, .int .i64 n, .string s], .agg #[.int .i64 k2, .int .i64 n2, .string s2]] W fun e w' => e = .returned (.string R) ∧ Below W.heap.size W w') (F1' : ∀ W, Calls Tryd.prog 33 #[.string R, .string (((⟨#[32, 97, 32]⟩ : ByteArray) ++ X) ++ (⟨#[32, 118, 97, 108, 117, 101]⟩ : ByteArray))] W fun e w' => e = .returned (.bool true) ∧ Below W.heap.size W w') (w : World) (hT : Tab w) : Calls Tryd.prog 6 #[.agg #[.int .i64 k, .int .i64 n, .string s], .agg #[.int .i64 k2, .int .i64 n2, .string s2]] w fun e w' => e = .returned (.bool true) ∧ Below w.heap.size w w' := by
  have T0 := Lib.hid hT
  have D0 := Lib.hid (OD.start2 w 32 [.int .i64 k, .int .i64 n, .string s] [.int .i64 k2, .int .i64 n2, .string s2])
  have AL := Lib.hid (fun W hW => aliveW_calls W hW)
  have XT := Lib.hid XT'
  have YT := Lib.hid YT'
  have C1 := Lib.hid C1'
  have C2 := Lib.hid C2'
  have C3 := Lib.hid C3'
  have C4 := Lib.hid C4'
  have C5 := Lib.hid C5'
  have E1 := Lib.hid E1'
  have E2 := Lib.hid E2'
  have E3 := Lib.hid E3'
  have E4 := Lib.hid E4'
  have E5 := Lib.hid E5'
  have CC := Lib.hid CC'
  have CD := Lib.hid CD'
  have HX := Lib.hid HX'
  have HY := Lib.hid HY'
  have AR := Lib.hid AR'
  have F1 := Lib.hid F1'
  have ix0 : ∀ W, (Instr.index 36 (.agg #[.string S1, .string S2, .string S3, .string S4, .string S5]) (.int .i64 0)).run Tryd.prog W = .ok (.string S1) W := fun W => by kernel_rfl
  have ix1 : ∀ W, (Instr.index 36 (.agg #[.string S1, .string S2, .string S3, .string S4, .string S5]) (.int .i64 1)).run Tryd.prog W = .ok (.string S2) W := fun W => by kernel_rfl
  have ix2 : ∀ W, (Instr.index 36 (.agg #[.string S1, .string S2, .string S3, .string S4, .string S5]) (.int .i64 2)).run Tryd.prog W = .ok (.string S3) W := fun W => by kernel_rfl
  have ix3 : ∀ W, (Instr.index 36 (.agg #[.string S1, .string S2, .string S3, .string S4, .string S5]) (.int .i64 3)).run Tryd.prog W = .ok (.string S4) W := fun W => by kernel_rfl
  have ix4 : ∀ W, (Instr.index 36 (.agg #[.string S1, .string S2, .string S3, .string S4, .string S5]) (.int .i64 4)).run Tryd.prog W = .ok (.string S5) W := fun W => by kernel_rfl
  have bX1 : (9223372036854775807 < 3 + X.size) = False := eq_false (by omega)
  have bX2 : (9223372036854775807 < 3 + X.size + 6) = False := eq_false (by omega)
  have bY1 : (9223372036854775807 < 3 + Y.size) = False := eq_false (by omega)
  have bY2 : (9223372036854775807 < 3 + Y.size + 6) = False := eq_false (by omega)
  clear hT XT' YT' C1' C2' C3' C4' C5' E1' E2' E3' E4' E5' CC' CD' HX' HY' AR' F1' hX hY
  go_enter Tryd.func6, Tryd.ntmps6
  go_upto_region 5 with (go_at_call 17; go_loud (with_reducible refine (AL.out _ (T0.out.on D0.out.bel)).mono ?_; rintro e wn1 ⟨rfl, hb⟩; have D1 := Lib.hid ((D0.out).on hb); clear hb; have u0 := (D1.out.blk _ (List.mem_cons_self)).2.cell 0 _ rfl; have uz0 := (D1.out.blk _ (List.mem_cons_self)).2.frozen 0; have u1 := (D1.out.blk _ (List.mem_cons_self)).2.cell 1 _ rfl; have uz1 := (D1.out.blk _ (List.mem_cons_self)).2.frozen 1; have u2 := (D1.out.blk _ (List.mem_cons_self)).2.cell 2 _ rfl; have uz2 := (D1.out.blk _ (List.mem_cons_self)).2.frozen 2; have ult := (D1.out).bl (List.mem_cons_self); have q0 := (D1.out.blk _ (List.mem_cons_of_mem _ (List.mem_cons_self))).2.cell 0 _ rfl; have qz0 := (D1.out.blk _ (List.mem_cons_of_mem _ (List.mem_cons_self))).2.frozen 0; have q1 := (D1.out.blk _ (List.mem_cons_of_mem _ (List.mem_cons_self))).2.cell 1 _ rfl; have qz1 := (D1.out.blk _ (List.mem_cons_of_mem _ (List.mem_cons_self))).2.frozen 1; have q2 := (D1.out.blk _ (List.mem_cons_of_mem _ (List.mem_cons_self))).2.cell 2 _ rfl; have qz2 := (D1.out.blk _ (List.mem_cons_of_mem _ (List.mem_cons_self))).2.frozen 2; have qlt := (D1.out).bl (List.mem_cons_of_mem _ (List.mem_cons_self))))
  have hu := Tryd.underlying32
  have hBA : Below wn1.heap.size wn1 ({ wn1 with drawn := wn1.drawn + 1 } : World) := ⟨rfl, rfl, rfl, Nat.le_refl _, fun _ _ => rfl⟩
  refine wp_region_held (S := Below wn1.heap.size wn1) (by kernel_rfl) ?_
  have hSA := hBA
  generalize ({ wn1 with drawn := wn1.drawn + 1 } : World) = wA at hSA hBA ⊢
  have hleA := D1.out.bel.size
  have hslA := hSA.size
  have qaA0 : ∀ W, Below wn1.heap.size wn1 W → W.cell? ⟨w.heap.size, 0, none⟩ = some (.int .i64 k) := fun W hW => ((D1.out.on hW).blk _ (List.mem_cons_of_mem _ (List.mem_cons_self))).2.cell 0 _ rfl
  have qaA1 : ∀ W, Below wn1.heap.size wn1 W → W.cell? ⟨w.heap.size, 1, none⟩ = some (.int .i64 n) := fun W hW => ((D1.out.on hW).blk _ (List.mem_cons_of_mem _ (List.mem_cons_self))).2.cell 1 _ rfl
  have qaA2 : ∀ W, Below wn1.heap.size wn1 W → W.cell? ⟨w.heap.size, 2, none⟩ = some (.string s) := fun W hW => ((D1.out.on hW).blk _ (List.mem_cons_of_mem _ (List.mem_cons_self))).2.cell 2 _ rfl
  have uaA0 : ∀ W, Below wn1.heap.size wn1 W → W.cell? ⟨w.heap.size + 1, 0, none⟩ = some (.int .i64 k2) := fun W hW => ((D1.out.on hW).blk _ (List.mem_cons_self)).2.cell 0 _ rfl
  have uaA1 : ∀ W, Below wn1.heap.size wn1 W → W.cell? ⟨w.heap.size + 1, 1, none⟩ = some (.int .i64 n2) := fun W hW => ((D1.out.on hW).blk _ (List.mem_cons_self)).2.cell 1 _ rfl
  have uaA2 : ∀ W, Below wn1.heap.size wn1 W → W.cell? ⟨w.heap.size + 1, 2, none⟩ = some (.string s2) := fun W hW => ((D1.out.on hW).blk _ (List.mem_cons_self)).2.cell 2 _ rfl
  refine takeH 0 (oi := ⟨some 24, _, _, _, _, _⟩) (v := ?_) rfl (by kernel_rfl) (by kernel_rfl) (by kernel_rfl) (fun _ _ _ h => h) (Or.inl ⟨by rfl, ?hyA29⟩) hSA ?restA29
  case hyA29 => (intro W hW; (try dsimp only at hW); go_simp; try with_reducible rfl)
  try simp only [Act.put, List.setIfInBounds_toArray, List.set_cons_zero, List.set_cons_succ]
  refine takeH 2 (oi := ⟨some 26, _, _, _, _, _⟩) (v := ?_) rfl (by kernel_rfl) (by kernel_rfl) (by kernel_rfl) (fun _ _ _ h => h) (Or.inl ⟨by rfl, ?hyA30⟩) hSA ?restA30
  case hyA30 => (intro W hW; (try dsimp only at hW); go_simp; try with_reducible rfl)
  try simp only [Act.put, List.setIfInBounds_toArray, List.set_cons_zero, List.set_cons_succ]
  refine one (i := 1) (by kernel_rfl) ?_
  refine wpOp_wanted rfl (by rfl) fun K hK => ?_
  go_simp
  with_reducible refine (XT.out _).mono ?_
  rintro e wA31 ⟨rfl, hb⟩
  have SA31 : Below wn1.heap.size wn1 wA31 := hSA.trans (hb.mono hSA.size)
  clear hb
  refine hK _ _ ⟨SA31, ?_⟩
  clear hK K
  try simp only [Act.put, List.setIfInBounds_toArray, List.set_cons_zero, List.set_cons_succ]
  refine one (i := 3) (by kernel_rfl) ?_
  refine wpOp_wanted rfl (by rfl) fun K hK => ?_
  go_simp
  with_reducible refine (YT.out _).mono ?_
  rintro e wA32 ⟨rfl, hb⟩
  have SA32 : Below wn1.heap.size wn1 wA32 := SA31.trans (hb.mono SA31.size)
  clear hb
  refine hK _ _ ⟨SA32, ?_⟩
  clear hK K
  try simp only [Act.put, List.setIfInBounds_toArray, List.set_cons_zero, List.set_cons_succ]
  refine takeH 4 (oi := ⟨some 5, _, _, _, _, _⟩) (v := ?_) rfl (by kernel_rfl) (by kernel_rfl) (by kernel_rfl) (fun _ _ _ h => h) (Or.inl ⟨by rfl, ?hyA33⟩) SA32 ?restA33
  case hyA33 => (intro W hW; (try dsimp only at hW); go_simp; try with_reducible rfl)
  try simp only [Act.put, List.setIfInBounds_toArray, List.set_cons_zero, List.set_cons_succ]
  refine takeH 5 (oi := ⟨some 6, _, _, _, _, _⟩) (v := ?_) rfl (by kernel_rfl) (by kernel_rfl) (by kernel_rfl) (fun _ _ _ h => h) (Or.inl ⟨by rfl, ?hyA34⟩) SA32 ?restA34
  case hyA34 => (intro W hW; (try dsimp only at hW); go_simp; try with_reducible rfl)
  try simp only [Act.put, List.setIfInBounds_toArray, List.set_cons_zero, List.set_cons_succ]
  refine wpAnyH_done (by kernel_rfl) ?_ _
  clear qaA0 qaA1 qaA2 uaA0 uaA1 uaA2
  have D2 := Lib.hid (D1.out.on SA32)
  generalize wA32 = W3 at D2 ⊢
  go_upto_region 6 with (fail)
  have hBB : Below W3.heap.size W3 ({ W3 with drawn := W3.drawn + 1 } : World) := ⟨rfl, rfl, rfl, Nat.le_refl _, fun _ _ => rfl⟩
  refine wp_region_held (S := Below W3.heap.size W3) (by kernel_rfl) ?_
  have hSB := hBB
  generalize ({ W3 with drawn := W3.drawn + 1 } : World) = wB at hSB hBB ⊢
  have hleB := D2.out.bel.size
  have hslB := hSB.size
  have qaB0 : ∀ W, Below W3.heap.size W3 W → W.cell? ⟨w.heap.size, 0, none⟩ = some (.int .i64 k) := fun W hW => ((D2.out.on hW).blk _ (List.mem_cons_of_mem _ (List.mem_cons_self))).2.cell 0 _ rfl
  have qaB1 : ∀ W, Below W3.heap.size W3 W → W.cell? ⟨w.heap.size, 1, none⟩ = some (.int .i64 n) := fun W hW => ((D2.out.on hW).blk _ (List.mem_cons_of_mem _ (List.mem_cons_self))).2.cell 1 _ rfl
  have qaB2 : ∀ W, Below W3.heap.size W3 W → W.cell? ⟨w.heap.size, 2, none⟩ = some (.string s) := fun W hW => ((D2.out.on hW).blk _ (List.mem_cons_of_mem _ (List.mem_cons_self))).2.cell 2 _ rfl
  refine takeH 0 (oi := ⟨some 28, _, _, _, _, _⟩) (v := ?_) rfl (by kernel_rfl) (by kernel_rfl) (by kernel_rfl) (fun _ _ _ h => h) (Or.inl ⟨by rfl, ?hyB35⟩) hSB ?restB35
  case hyB35 => (intro W hW; (try dsimp only at hW); go_simp; try with_reducible rfl)
  try simp only [Act.put, List.setIfInBounds_toArray, List.set_cons_zero, List.set_cons_succ]
  refine takeH 2 (oi := ⟨some 30, _, _, _, _, _⟩) (v := ?_) rfl (by kernel_rfl) (by kernel_rfl) (by kernel_rfl) (fun _ _ _ h => h) (Or.inl ⟨by rfl, ?hyB36⟩) hSB ?restB36
  case hyB36 => (intro W hW; (try dsimp only at hW); go_simp; try with_reducible rfl)
  try simp only [Act.put, List.setIfInBounds_toArray, List.set_cons_zero, List.set_cons_succ]
  refine takeH 4 (oi := ⟨some 32, _, _, _, _, _⟩) (v := ?_) rfl (by kernel_rfl) (by kernel_rfl) (by kernel_rfl) (fun _ _ _ h => h) (Or.inl ⟨by rfl, ?hyB37⟩) hSB ?restB37
  case hyB37 => (intro W hW; (try dsimp only at hW); go_simp; try with_reducible rfl)
  try simp only [Act.put, List.setIfInBounds_toArray, List.set_cons_zero, List.set_cons_succ]
  refine takeH 6 (oi := ⟨some 34, _, _, _, _, _⟩) (v := ?_) rfl (by kernel_rfl) (by kernel_rfl) (by kernel_rfl) (fun _ _ _ h => h) (Or.inl ⟨by rfl, ?hyB38⟩) hSB ?restB38
  case hyB38 => (intro W hW; (try dsimp only at hW); go_simp; try with_reducible rfl)
  try simp only [Act.put, List.setIfInBounds_toArray, List.set_cons_zero, List.set_cons_succ]
  refine takeH 7 (oi := ⟨some 35, _, _, _, _, _⟩) (v := ?_) rfl (by kernel_rfl) (by kernel_rfl) (by kernel_rfl) (fun _ _ _ h => h) (Or.inl ⟨by rfl, ?hyB39⟩) hSB ?restB39
  case hyB39 => (intro W hW; (try dsimp only at hW); go_simp; try with_reducible rfl)
  try simp only [Act.put, List.setIfInBounds_toArray, List.set_cons_zero, List.set_cons_succ]
  refine takeH 9 (oi := ⟨some 37, _, _, _, _, _⟩) (v := ?_) rfl (by kernel_rfl) (by kernel_rfl) (by kernel_rfl) (fun _ _ _ h => h) (Or.inl ⟨by rfl, ?hyB40⟩) hSB ?restB40
  case hyB40 => (intro W hW; (try dsimp only at hW); go_simp; try with_reducible rfl)
  try simp only [Act.put, List.setIfInBounds_toArray, List.set_cons_zero, List.set_cons_succ]
  refine takeH 10 (oi := ⟨some 38, _, _, _, _, _⟩) (v := ?_) rfl (by kernel_rfl) (by kernel_rfl) (by kernel_rfl) (fun _ _ _ h => h) (Or.inl ⟨by rfl, ?hyB41⟩) hSB ?restB41
  case hyB41 => (intro W hW; (try dsimp only at hW); go_simp; try with_reducible rfl)
  try simp only [Act.put, List.setIfInBounds_toArray, List.set_cons_zero, List.set_cons_succ]
  refine takeH 13 (oi := ⟨some 41, _, _, _, _, _⟩) (v := ?_) rfl (by kernel_rfl) (by kernel_rfl) (by kernel_rfl) (fun _ _ _ h => h) (Or.inl ⟨by rfl, ?hyB42⟩) hSB ?restB42
  case hyB42 => (intro W hW; (try dsimp only at hW); go_simp; try with_reducible rfl)
  try simp only [Act.put, List.setIfInBounds_toArray, List.set_cons_zero, List.set_cons_succ]
  refine one (i := 1) (by kernel_rfl) ?_
  refine wpOp_wanted rfl (by rfl) fun K hK => ?_
  go_simp
  with_reducible refine (C1.out _).mono ?_
  rintro e wB43 ⟨rfl, hb⟩
  have SB43 : Below W3.heap.size W3 wB43 := hSB.trans (hb.mono hSB.size)
  clear hb
  refine hK _ _ ⟨SB43, ?_⟩
  clear hK K
  try simp only [Act.put, List.setIfInBounds_toArray, List.set_cons_zero, List.set_cons_succ]
  refine one (i := 3) (by kernel_rfl) ?_
  refine wpOp_wanted rfl (by rfl) fun K hK => ?_
  go_simp
  with_reducible refine (C2.out _).mono ?_
  rintro e wB44 ⟨rfl, hb⟩
  have SB44 : Below W3.heap.size W3 wB44 := SB43.trans (hb.mono SB43.size)
  clear hb
  refine hK _ _ ⟨SB44, ?_⟩
  clear hK K
  try simp only [Act.put, List.setIfInBounds_toArray, List.set_cons_zero, List.set_cons_succ]
  refine one (i := 5) (by kernel_rfl) ?_
  refine wpOp_wanted rfl (by rfl) fun K hK => ?_
  go_simp
  with_reducible refine (C3.out _).mono ?_
  rintro e wB45 ⟨rfl, hb⟩
  have SB45 : Below W3.heap.size W3 wB45 := SB44.trans (hb.mono SB44.size)
  clear hb
  refine hK _ _ ⟨SB45, ?_⟩
  clear hK K
  try simp only [Act.put, List.setIfInBounds_toArray, List.set_cons_zero, List.set_cons_succ]
  refine one (i := 8) (by kernel_rfl) ?_
  refine wpOp_wanted rfl (by rfl) fun K hK => ?_
  go_simp
  with_reducible refine (C4.out _ (T0.out.on (D2.out.on SB45).bel)).mono ?_
  rintro e wB46 ⟨rfl, hb⟩
  have SB46 : Below W3.heap.size W3 wB46 := SB45.trans (hb.mono SB45.size)
  clear hb
  refine hK _ _ ⟨SB46, ?_⟩
  clear hK K
  try simp only [Act.put, List.setIfInBounds_toArray, List.set_cons_zero, List.set_cons_succ]
  refine one (i := 11) (by kernel_rfl) ?_
  refine wpOp_wanted rfl (by rfl) fun K hK => ?_
  go_simp
  with_reducible refine (C5.out _ (T0.out.on (D2.out.on SB46).bel)).mono ?_
  rintro e wB47 ⟨rfl, hb⟩
  have SB47 : Below W3.heap.size W3 wB47 := SB46.trans (hb.mono SB46.size)
  clear hb
  refine hK _ _ ⟨SB47, ?_⟩
  clear hK K
  try simp only [Act.put, List.setIfInBounds_toArray, List.set_cons_zero, List.set_cons_succ]
  refine takeH 12 (oi := ⟨some 40, _, _, _, _, _⟩) (v := ?_) rfl (by kernel_rfl) (by kernel_rfl) (by kernel_rfl) (fun _ _ _ h => h) (Or.inl ⟨by rfl, ?hyB48⟩) SB47 ?restB48
  case hyB48 => (intro W hW; (try dsimp only at hW); go_simp; try with_reducible rfl)
  try simp only [Act.put, List.setIfInBounds_toArray, List.set_cons_zero, List.set_cons_succ]
  refine wpAnyH_done (by kernel_rfl) ?_ _
  clear qaB0 qaB1 qaB2
  have D3 := Lib.hid (D2.out.on SB47)
  generalize wB47 = W4 at D3 ⊢
  go_wp2
  go_loopw [8, 41] (fun tv iv wr => ∃ j : Nat, j ≤ 5 ∧ iv = .int .i64 j ∧ Hid (OD w [(w.heap.size + 1, 32, [.int .i64 k2, .int .i64 n2, .string s2]), (w.heap.size, 32, [.int .i64 k, .int .i64 n, .string s])] wr)) (fun _ iv _ => 5 - (intOf iv).toNat)
  case atStart => exact ⟨0, by omega, rfl, D3⟩
  case round =>
    obtain ⟨j, hj, rfl, HD⟩ := hrel
    by_cases e0 : j = 0
    · subst e0
      clear hj
      go_wp2_with (go_at_call 33; go_loud (with_reducible refine (E1.out _).mono ?_; rintro e wn4 ⟨rfl, hb⟩; have D4 := Lib.hid ((HD.out).on hb); clear hb))
      go_roundw
      case rel => exact ⟨1, by omega, by first | rfl | go_num, D4⟩
      case measure => simp [intOf]
    by_cases e1 : j = 1
    · subst e1
      clear hj
      go_wp2_with (go_at_call 33; go_loud (with_reducible refine (E2.out _).mono ?_; rintro e wn4 ⟨rfl, hb⟩; have D4 := Lib.hid ((HD.out).on hb); clear hb))
      go_roundw
      case rel => exact ⟨2, by omega, by first | rfl | go_num, D4⟩
      case measure => simp [intOf]
    by_cases e2 : j = 2
    · subst e2
      clear hj
      go_wp2_with (go_at_call 33; go_loud (with_reducible refine (E3.out _).mono ?_; rintro e wn4 ⟨rfl, hb⟩; have D4 := Lib.hid ((HD.out).on hb); clear hb))
      go_roundw
      case rel => exact ⟨3, by omega, by first | rfl | go_num, D4⟩
      case measure => simp [intOf]
    by_cases e3 : j = 3
    · subst e3
      clear hj
      go_wp2_with (go_at_call 33; go_loud (with_reducible refine (E4.out _).mono ?_; rintro e wn4 ⟨rfl, hb⟩; have D4 := Lib.hid ((HD.out).on hb); clear hb))
      go_roundw
      case rel => exact ⟨4, by omega, by first | rfl | go_num, D4⟩
      case measure => simp [intOf]
    by_cases e4 : j = 4
    · subst e4
      clear hj
      go_wp2_with (go_at_call 33; go_loud (with_reducible refine (E5.out _).mono ?_; rintro e wn4 ⟨rfl, hb⟩; have D4 := Lib.hid ((HD.out).on hb); clear hb))
      go_roundw
      case rel => exact ⟨5, by omega, by first | rfl | go_num, D4⟩
      case measure => simp [intOf]
    obtain rfl : j = 5 := by omega
    go_upto_region 12 with (fail)
    have hBE : Below wr.heap.size wr ({ wr with drawn := wr.drawn + 1 } : World) := ⟨rfl, rfl, rfl, Nat.le_refl _, fun _ _ => rfl⟩
    refine wp_region_held (S := Below wr.heap.size wr) (by kernel_rfl) ?_
    have hSE := hBE
    generalize ({ wr with drawn := wr.drawn + 1 } : World) = wE at hSE hBE ⊢
    have hleE := HD.out.bel.size
    have hslE := hSE.size
    have qaE0 : ∀ W, Below wr.heap.size wr W → W.cell? ⟨w.heap.size, 0, none⟩ = some (.int .i64 k) := fun W hW => ((HD.out.on hW).blk _ (List.mem_cons_of_mem _ (List.mem_cons_self))).2.cell 0 _ rfl
    have qaE1 : ∀ W, Below wr.heap.size wr W → W.cell? ⟨w.heap.size, 1, none⟩ = some (.int .i64 n) := fun W hW => ((HD.out.on hW).blk _ (List.mem_cons_of_mem _ (List.mem_cons_self))).2.cell 1 _ rfl
    have qaE2 : ∀ W, Below wr.heap.size wr W → W.cell? ⟨w.heap.size, 2, none⟩ = some (.string s) := fun W hW => ((HD.out.on hW).blk _ (List.mem_cons_of_mem _ (List.mem_cons_self))).2.cell 2 _ rfl
    have uaE0 : ∀ W, Below wr.heap.size wr W → W.cell? ⟨w.heap.size + 1, 0, none⟩ = some (.int .i64 k2) := fun W hW => ((HD.out.on hW).blk _ (List.mem_cons_self)).2.cell 0 _ rfl
    have uaE1 : ∀ W, Below wr.heap.size wr W → W.cell? ⟨w.heap.size + 1, 1, none⟩ = some (.int .i64 n2) := fun W hW => ((HD.out.on hW).blk _ (List.mem_cons_self)).2.cell 1 _ rfl
    have uaE2 : ∀ W, Below wr.heap.size wr W → W.cell? ⟨w.heap.size + 1, 2, none⟩ = some (.string s2) := fun W hW => ((HD.out.on hW).blk _ (List.mem_cons_self)).2.cell 2 _ rfl
    refine takeH 0 (oi := ⟨some 51, _, _, _, _, _⟩) (v := ?_) rfl (by kernel_rfl) (by kernel_rfl) (by kernel_rfl) (fun _ _ _ h => h) (Or.inl ⟨by rfl, ?hyE49⟩) hSE ?restE49
    case hyE49 => (intro W hW; (try dsimp only at hW); go_simp; try with_reducible rfl)
    try simp only [Act.put, List.setIfInBounds_toArray, List.set_cons_zero, List.set_cons_succ]
    refine takeH 1 (oi := ⟨some 52, _, _, _, _, _⟩) (v := ?_) rfl (by kernel_rfl) (by kernel_rfl) (by kernel_rfl) (fun _ _ _ h => h) (Or.inl ⟨by rfl, ?hyE50⟩) hSE ?restE50
    case hyE50 => (intro W hW; (try dsimp only at hW); go_simp; try with_reducible rfl)
    try simp only [Act.put, List.setIfInBounds_toArray, List.set_cons_zero, List.set_cons_succ]
    refine takeH 3 (oi := ⟨some 54, _, _, _, _, _⟩) (v := ?_) rfl (by kernel_rfl) (by kernel_rfl) (by kernel_rfl) (fun _ _ _ h => h) (Or.inl ⟨by rfl, ?hyE51⟩) hSE ?restE51
    case hyE51 => (intro W hW; (try dsimp only at hW); go_simp; try with_reducible rfl)
    try simp only [Act.put, List.setIfInBounds_toArray, List.set_cons_zero, List.set_cons_succ]
    refine takeH 4 (oi := ⟨some 55, _, _, _, _, _⟩) (v := ?_) rfl (by kernel_rfl) (by kernel_rfl) (by kernel_rfl) (fun _ _ _ h => h) (Or.inl ⟨by rfl, ?hyE52⟩) hSE ?restE52
    case hyE52 => (intro W hW; (try dsimp only at hW); go_simp; try with_reducible rfl)
    try simp only [Act.put, List.setIfInBounds_toArray, List.set_cons_zero, List.set_cons_succ]
    refine one (i := 2) (by kernel_rfl) ?_
    refine wpOp_wanted rfl (by rfl) fun K hK => ?_
    go_simp
    with_reducible refine (CC.out _).mono ?_
    rintro e wE53 ⟨rfl, hb⟩
    have SE53 : Below wr.heap.size wr wE53 := hSE.trans (hb.mono hSE.size)
    clear hb
    refine hK _ _ ⟨SE53, ?_⟩
    clear hK K
    try simp only [Act.put, List.setIfInBounds_toArray, List.set_cons_zero, List.set_cons_succ]
    refine one (i := 5) (by kernel_rfl) ?_
    refine wpOp_wanted rfl (by rfl) fun K hK => ?_
    go_simp
    with_reducible refine (CD.out _).mono ?_
    rintro e wE54 ⟨rfl, hb⟩
    have SE54 : Below wr.heap.size wr wE54 := SE53.trans (hb.mono SE53.size)
    clear hb
    refine hK _ _ ⟨SE54, ?_⟩
    clear hK K
    try simp only [Act.put, List.setIfInBounds_toArray, List.set_cons_zero, List.set_cons_succ]
    refine takeH 6 (oi := ⟨some 9, _, _, _, _, _⟩) (v := ?_) rfl (by kernel_rfl) (by kernel_rfl) (by kernel_rfl) (fun _ _ _ h => h) (Or.inl ⟨by rfl, ?hyE55⟩) SE54 ?restE55
    case hyE55 => (intro W hW; (try dsimp only at hW); go_simp; try with_reducible rfl)
    try simp only [Act.put, List.setIfInBounds_toArray, List.set_cons_zero, List.set_cons_succ]
    refine takeH 7 (oi := ⟨some 10, _, _, _, _, _⟩) (v := ?_) rfl (by kernel_rfl) (by kernel_rfl) (by kernel_rfl) (fun _ _ _ h => h) (Or.inl ⟨by rfl, ?hyE56⟩) SE54 ?restE56
    case hyE56 => (intro W hW; (try dsimp only at hW); go_simp; try with_reducible rfl)
    try simp only [Act.put, List.setIfInBounds_toArray, List.set_cons_zero, List.set_cons_succ]
    refine wpAnyH_done (by kernel_rfl) ?_ _
    clear qaE0 qaE1 qaE2 uaE0 uaE1 uaE2
    have D5 := Lib.hid (HD.out.on SE54)
    generalize wE54 = W5 at D5 ⊢
    have u0 := (D5.out.blk _ (List.mem_cons_self)).2.cell 0 _ rfl; have uz0 := (D5.out.blk _ (List.mem_cons_self)).2.frozen 0; have u1 := (D5.out.blk _ (List.mem_cons_self)).2.cell 1 _ rfl; have uz1 := (D5.out.blk _ (List.mem_cons_self)).2.frozen 1; have u2 := (D5.out.blk _ (List.mem_cons_self)).2.cell 2 _ rfl; have uz2 := (D5.out.blk _ (List.mem_cons_self)).2.frozen 2; have ult := (D5.out).bl (List.mem_cons_self); have q0 := (D5.out.blk _ (List.mem_cons_of_mem _ (List.mem_cons_self))).2.cell 0 _ rfl; have qz0 := (D5.out.blk _ (List.mem_cons_of_mem _ (List.mem_cons_self))).2.frozen 0; have q1 := (D5.out.blk _ (List.mem_cons_of_mem _ (List.mem_cons_self))).2.cell 1 _ rfl; have qz1 := (D5.out.blk _ (List.mem_cons_of_mem _ (List.mem_cons_self))).2.frozen 1; have q2 := (D5.out.blk _ (List.mem_cons_of_mem _ (List.mem_cons_self))).2.cell 2 _ rfl; have qz2 := (D5.out.blk _ (List.mem_cons_of_mem _ (List.mem_cons_self))).2.frozen 2; have qlt := (D5.out).bl (List.mem_cons_of_mem _ (List.mem_cons_self))
    go_wp2_with (first | (go_at_call 34; go_loud (with_reducible refine (HX.out _).mono ?_; rintro e wn6 ⟨rfl, hb⟩; have D6 := Lib.hid ((D5.out).on hb); clear hb; have u0 := (D6.out.blk _ (List.mem_cons_self)).2.cell 0 _ rfl; have uz0 := (D6.out.blk _ (List.mem_cons_self)).2.frozen 0; have u1 := (D6.out.blk _ (List.mem_cons_self)).2.cell 1 _ rfl; have uz1 := (D6.out.blk _ (List.mem_cons_self)).2.frozen 1; have u2 := (D6.out.blk _ (List.mem_cons_self)).2.cell 2 _ rfl; have uz2 := (D6.out.blk _ (List.mem_cons_self)).2.frozen 2; have ult := (D6.out).bl (List.mem_cons_self); have q0 := (D6.out.blk _ (List.mem_cons_of_mem _ (List.mem_cons_self))).2.cell 0 _ rfl; have qz0 := (D6.out.blk _ (List.mem_cons_of_mem _ (List.mem_cons_self))).2.frozen 0; have q1 := (D6.out.blk _ (List.mem_cons_of_mem _ (List.mem_cons_self))).2.cell 1 _ rfl; have qz1 := (D6.out.blk _ (List.mem_cons_of_mem _ (List.mem_cons_self))).2.frozen 1; have q2 := (D6.out.blk _ (List.mem_cons_of_mem _ (List.mem_cons_self))).2.cell 2 _ rfl; have qz2 := (D6.out.blk _ (List.mem_cons_of_mem _ (List.mem_cons_self))).2.frozen 2; have qlt := (D6.out).bl (List.mem_cons_of_mem _ (List.mem_cons_self)))) | (go_at_call 34; go_loud (with_reducible refine (HY.out _).mono ?_; rintro e wn7 ⟨rfl, hb⟩; have D7 := Lib.hid ((D6.out).on hb); clear hb; have u0 := (D7.out.blk _ (List.mem_cons_self)).2.cell 0 _ rfl; have uz0 := (D7.out.blk _ (List.mem_cons_self)).2.frozen 0; have u1 := (D7.out.blk _ (List.mem_cons_self)).2.cell 1 _ rfl; have uz1 := (D7.out.blk _ (List.mem_cons_self)).2.frozen 1; have u2 := (D7.out.blk _ (List.mem_cons_self)).2.cell 2 _ rfl; have uz2 := (D7.out.blk _ (List.mem_cons_self)).2.frozen 2; have ult := (D7.out).bl (List.mem_cons_self); have q0 := (D7.out.blk _ (List.mem_cons_of_mem _ (List.mem_cons_self))).2.cell 0 _ rfl; have qz0 := (D7.out.blk _ (List.mem_cons_of_mem _ (List.mem_cons_self))).2.frozen 0; have q1 := (D7.out.blk _ (List.mem_cons_of_mem _ (List.mem_cons_self))).2.cell 1 _ rfl; have qz1 := (D7.out.blk _ (List.mem_cons_of_mem _ (List.mem_cons_self))).2.frozen 1; have q2 := (D7.out.blk _ (List.mem_cons_of_mem _ (List.mem_cons_self))).2.cell 2 _ rfl; have qz2 := (D7.out.blk _ (List.mem_cons_of_mem _ (List.mem_cons_self))).2.frozen 2; have qlt := (D7.out).bl (List.mem_cons_of_mem _ (List.mem_cons_self)))) | (go_at_call 24; go_loud (with_reducible refine (AR.out _ (T0.out.on D7.out.bel)).mono ?_; rintro e wn8 ⟨rfl, hb⟩; have D8 := Lib.hid ((D7.out).on hb); clear hb)) | (go_at_call 33; go_loud (with_reducible refine (F1.out _).mono ?_; rintro e wn9 ⟨rfl, hb⟩; have D9 := Lib.hid ((D8.out).on hb); clear hb)))
    go_ret
    exact ⟨rfl, D9.out.bel⟩
set_option maxHeartbeats 16000000 in
set_option maxRecDepth 20000 in
theorem wnD2 (k n : Int) (s : ByteArray) (k2 n2 : Int) (s2 : ByteArray) (X Y S1 S2 S3 S4 S5 C D R : ByteArray) (h1 : decide (10000 < (s.size : Int)) = false) (h2 : decide (10000 < (s2.size : Int)) = false) (hX : X.size ≤ 8) (hY : Y.size ≤ 8) (hlen : D.size = C.size) (hcd : (C.toList == D.toList) = false) (hxy : (X.toList == Y.toList) = false) (XT' : ∀ W, Calls Tryd.prog 32 #[.agg #[.int .i64 k, .int .i64 n, .string s]] W fun e w' => e = .returned (.string X) ∧ Below W.heap.size W w') (YT' : ∀ W, Calls Tryd.prog 32 #[.agg #[.int .i64 k2, .int .i64 n2, .string s2]] W fun e w' => e = .returned (.string Y) ∧ Below W.heap.size W w') (C1' : ∀ W, Calls Tryd.prog 18 #[.agg #[.int .i64 k, .int .i64 n, .string s]] W fun e w' => e = .returned (.string S1) ∧ Below W.heap.size W w') (C2' : ∀ W, Calls Tryd.prog 20 #[.agg #[.int .i64 k, .int .i64 n, .string s]] W fun e w' => e = .returned (.string S2) ∧ Below W.heap.size W w') (C3' : ∀ W, Calls Tryd.prog 22 #[.agg #[.int .i64 k, .int .i64 n, .string s]] W fun e w' => e = .returned (.string S3) ∧ Below W.heap.size W w') (C4' : ∀ W, Tab W → Calls Tryd.prog 24 #[.agg #[.int .i64 k, .int .i64 n, .string s], .agg #[.int .i64 k, .int .i64 n, .string s]] W fun e w' => e = .returned (.string S4) ∧ Below W.heap.size W w') (C5' : ∀ W, Tab W → Calls Tryd.prog 26 #[.agg #[.int .i64 k, .int .i64 n, .string s], .agg #[.int .i64 k, .int .i64 n, .string s]] W fun e w' => e = .returned (.string S5) ∧ Below W.heap.size W w') (E1' : ∀ W, Calls Tryd.prog 33 #[.string S1, .string (((⟨#[32, 97, 32]⟩ : ByteArray) ++ X) ++ (⟨#[32, 118, 97, 108, 117, 101]⟩ : ByteArray))] W fun e w' => e = .returned (.bool true) ∧ Below W.heap.size W w') (E2' : ∀ W, Calls Tryd.prog 33 #[.string S2, .string (((⟨#[32, 97, 32]⟩ : ByteArray) ++ X) ++ (⟨#[32, 118, 97, 108, 117, 101]⟩ : ByteArray))] W fun e w' => e = .returned (.bool true) ∧ Below W.heap.size W w') (E3' : ∀ W, Calls Tryd.prog 33 #[.string S3, .string (((⟨#[32, 97, 32]⟩ : ByteArray) ++ X) ++ (⟨#[32, 118, 97, 108, 117, 101]⟩ : ByteArray))] W fun e w' => e = .returned (.bool true) ∧ Below W.heap.size W w') (E4' : ∀ W, Calls Tryd.prog 33 #[.string S4, .string (((⟨#[32, 97, 32]⟩ : ByteArray) ++ X) ++ (⟨#[32, 118, 97, 108, 117, 101]⟩ : ByteArray))] W fun e w' => e = .returned (.bool true) ∧ Below W.heap.size W w') (E5' : ∀ W, Calls Tryd.prog 33 #[.string S5, .string (((⟨#[32, 97, 32]⟩ : ByteArray) ++ X) ++ (⟨#[32, 118, 97, 108, 117, 101]⟩ : ByteArray))] W fun e w' => e = .returned (.bool true) ∧ Below W.heap.size W w') (CC' : ∀ W, Calls Tryd.prog 28 #[.agg #[.int .i64 k, .int .i64 n, .string s], .agg #[.int .i64 k2, .int .i64 n2, .string s2]] W fun e w' => e = .returned (.string C) ∧ Below W.heap.size W w') (CD' : ∀ W, Calls Tryd.prog 28 #[.agg #[.int .i64 k2, .int .i64 n2, .string s2], .agg #[.int .i64 k, .int .i64 n, .string s]] W fun e w' => e = .returned (.string D) ∧ Below W.heap.size W w') (HX' : ∀ W, Calls Tryd.prog 34 #[.string C, .string X] W fun e w' => e = .returned (.bool true) ∧ Below W.heap.size W w') (HY' : ∀ W, Calls Tryd.prog 34 #[.string C, .string Y] W fun e w' => e = .returned (.bool true) ∧ Below W.heap.size W w') (AR' : ∀ W, Tab W → Calls Tryd.prog 24 #[.agg #[.int .i64 k, .int .i64 n, .string s], .agg #[.int .i64 k2, .int .i64 n2, .string s2]] W fun e w' => e = .returned (.string R) ∧ Below W.heap.size W w') (F1' : ∀ W, Calls Tryd.prog 33 #[.string R, .string (((⟨#[32, 97, 32]⟩ : ByteArray) ++ X) ++ (⟨#[32, 118, 97, 108, 117, 101]⟩ : ByteArray))] W fun e w' => e = .returned (.bool false) ∧ Below W.heap.size W w') (F2' : ∀ W, Calls Tryd.prog 33 #[.string R, .string (((⟨#[32, 97, 32]⟩ : ByteArray) ++ Y) ++ (⟨#[32, 118, 97, 108, 117, 101]⟩ : ByteArray))] W fun e w' => e = .returned (.bool true) ∧ Below W.heap.size W w') (w : World) (hT : Tab w) : Calls Tryd.prog 6 #[.agg #[.int .i64 k, .int .i64 n, .string s], .agg #[.int .i64 k2, .int .i64 n2, .string s2]] w fun e w' => e = .returned (.bool true) ∧ Below w.heap.size w w' := by
  have T0 := Lib.hid hT
  have D0 := Lib.hid (OD.start2 w 32 [.int .i64 k, .int .i64 n, .string s] [.int .i64 k2, .int .i64 n2, .string s2])
  have AL := Lib.hid (fun W hW => aliveW_calls W hW)
  have XT := Lib.hid XT'
  have YT := Lib.hid YT'
  have C1 := Lib.hid C1'
  have C2 := Lib.hid C2'
  have C3 := Lib.hid C3'
  have C4 := Lib.hid C4'
  have C5 := Lib.hid C5'
  have E1 := Lib.hid E1'
  have E2 := Lib.hid E2'
  have E3 := Lib.hid E3'
  have E4 := Lib.hid E4'
  have E5 := Lib.hid E5'
  have CC := Lib.hid CC'
  have CD := Lib.hid CD'
  have HX := Lib.hid HX'
  have HY := Lib.hid HY'
  have AR := Lib.hid AR'
  have F1 := Lib.hid F1'
  have F2 := Lib.hid F2'
  have ix0 : ∀ W, (Instr.index 36 (.agg #[.string S1, .string S2, .string S3, .string S4, .string S5]) (.int .i64 0)).run Tryd.prog W = .ok (.string S1) W := fun W => by kernel_rfl
  have ix1 : ∀ W, (Instr.index 36 (.agg #[.string S1, .string S2, .string S3, .string S4, .string S5]) (.int .i64 1)).run Tryd.prog W = .ok (.string S2) W := fun W => by kernel_rfl
  have ix2 : ∀ W, (Instr.index 36 (.agg #[.string S1, .string S2, .string S3, .string S4, .string S5]) (.int .i64 2)).run Tryd.prog W = .ok (.string S3) W := fun W => by kernel_rfl
  have ix3 : ∀ W, (Instr.index 36 (.agg #[.string S1, .string S2, .string S3, .string S4, .string S5]) (.int .i64 3)).run Tryd.prog W = .ok (.string S4) W := fun W => by kernel_rfl
  have ix4 : ∀ W, (Instr.index 36 (.agg #[.string S1, .string S2, .string S3, .string S4, .string S5]) (.int .i64 4)).run Tryd.prog W = .ok (.string S5) W := fun W => by kernel_rfl
  have bX1 : (9223372036854775807 < 3 + X.size) = False := eq_false (by omega)
  have bX2 : (9223372036854775807 < 3 + X.size + 6) = False := eq_false (by omega)
  have bY1 : (9223372036854775807 < 3 + Y.size) = False := eq_false (by omega)
  have bY2 : (9223372036854775807 < 3 + Y.size + 6) = False := eq_false (by omega)
  clear hT XT' YT' C1' C2' C3' C4' C5' E1' E2' E3' E4' E5' CC' CD' HX' HY' AR' F1' F2' hX hY
  go_enter Tryd.func6, Tryd.ntmps6
  go_upto_region 5 with (go_at_call 17; go_loud (with_reducible refine (AL.out _ (T0.out.on D0.out.bel)).mono ?_; rintro e wn1 ⟨rfl, hb⟩; have D1 := Lib.hid ((D0.out).on hb); clear hb; have u0 := (D1.out.blk _ (List.mem_cons_self)).2.cell 0 _ rfl; have uz0 := (D1.out.blk _ (List.mem_cons_self)).2.frozen 0; have u1 := (D1.out.blk _ (List.mem_cons_self)).2.cell 1 _ rfl; have uz1 := (D1.out.blk _ (List.mem_cons_self)).2.frozen 1; have u2 := (D1.out.blk _ (List.mem_cons_self)).2.cell 2 _ rfl; have uz2 := (D1.out.blk _ (List.mem_cons_self)).2.frozen 2; have ult := (D1.out).bl (List.mem_cons_self); have q0 := (D1.out.blk _ (List.mem_cons_of_mem _ (List.mem_cons_self))).2.cell 0 _ rfl; have qz0 := (D1.out.blk _ (List.mem_cons_of_mem _ (List.mem_cons_self))).2.frozen 0; have q1 := (D1.out.blk _ (List.mem_cons_of_mem _ (List.mem_cons_self))).2.cell 1 _ rfl; have qz1 := (D1.out.blk _ (List.mem_cons_of_mem _ (List.mem_cons_self))).2.frozen 1; have q2 := (D1.out.blk _ (List.mem_cons_of_mem _ (List.mem_cons_self))).2.cell 2 _ rfl; have qz2 := (D1.out.blk _ (List.mem_cons_of_mem _ (List.mem_cons_self))).2.frozen 2; have qlt := (D1.out).bl (List.mem_cons_of_mem _ (List.mem_cons_self))))
  have hu := Tryd.underlying32
  have hBA : Below wn1.heap.size wn1 ({ wn1 with drawn := wn1.drawn + 1 } : World) := ⟨rfl, rfl, rfl, Nat.le_refl _, fun _ _ => rfl⟩
  refine wp_region_held (S := Below wn1.heap.size wn1) (by kernel_rfl) ?_
  have hSA := hBA
  generalize ({ wn1 with drawn := wn1.drawn + 1 } : World) = wA at hSA hBA ⊢
  have hleA := D1.out.bel.size
  have hslA := hSA.size
  have qaA0 : ∀ W, Below wn1.heap.size wn1 W → W.cell? ⟨w.heap.size, 0, none⟩ = some (.int .i64 k) := fun W hW => ((D1.out.on hW).blk _ (List.mem_cons_of_mem _ (List.mem_cons_self))).2.cell 0 _ rfl
  have qaA1 : ∀ W, Below wn1.heap.size wn1 W → W.cell? ⟨w.heap.size, 1, none⟩ = some (.int .i64 n) := fun W hW => ((D1.out.on hW).blk _ (List.mem_cons_of_mem _ (List.mem_cons_self))).2.cell 1 _ rfl
  have qaA2 : ∀ W, Below wn1.heap.size wn1 W → W.cell? ⟨w.heap.size, 2, none⟩ = some (.string s) := fun W hW => ((D1.out.on hW).blk _ (List.mem_cons_of_mem _ (List.mem_cons_self))).2.cell 2 _ rfl
  have uaA0 : ∀ W, Below wn1.heap.size wn1 W → W.cell? ⟨w.heap.size + 1, 0, none⟩ = some (.int .i64 k2) := fun W hW => ((D1.out.on hW).blk _ (List.mem_cons_self)).2.cell 0 _ rfl
  have uaA1 : ∀ W, Below wn1.heap.size wn1 W → W.cell? ⟨w.heap.size + 1, 1, none⟩ = some (.int .i64 n2) := fun W hW => ((D1.out.on hW).blk _ (List.mem_cons_self)).2.cell 1 _ rfl
  have uaA2 : ∀ W, Below wn1.heap.size wn1 W → W.cell? ⟨w.heap.size + 1, 2, none⟩ = some (.string s2) := fun W hW => ((D1.out.on hW).blk _ (List.mem_cons_self)).2.cell 2 _ rfl
  refine takeH 0 (oi := ⟨some 24, _, _, _, _, _⟩) (v := ?_) rfl (by kernel_rfl) (by kernel_rfl) (by kernel_rfl) (fun _ _ _ h => h) (Or.inl ⟨by rfl, ?hyA57⟩) hSA ?restA57
  case hyA57 => (intro W hW; (try dsimp only at hW); go_simp; try with_reducible rfl)
  try simp only [Act.put, List.setIfInBounds_toArray, List.set_cons_zero, List.set_cons_succ]
  refine takeH 2 (oi := ⟨some 26, _, _, _, _, _⟩) (v := ?_) rfl (by kernel_rfl) (by kernel_rfl) (by kernel_rfl) (fun _ _ _ h => h) (Or.inl ⟨by rfl, ?hyA58⟩) hSA ?restA58
  case hyA58 => (intro W hW; (try dsimp only at hW); go_simp; try with_reducible rfl)
  try simp only [Act.put, List.setIfInBounds_toArray, List.set_cons_zero, List.set_cons_succ]
  refine one (i := 1) (by kernel_rfl) ?_
  refine wpOp_wanted rfl (by rfl) fun K hK => ?_
  go_simp
  with_reducible refine (XT.out _).mono ?_
  rintro e wA59 ⟨rfl, hb⟩
  have SA59 : Below wn1.heap.size wn1 wA59 := hSA.trans (hb.mono hSA.size)
  clear hb
  refine hK _ _ ⟨SA59, ?_⟩
  clear hK K
  try simp only [Act.put, List.setIfInBounds_toArray, List.set_cons_zero, List.set_cons_succ]
  refine one (i := 3) (by kernel_rfl) ?_
  refine wpOp_wanted rfl (by rfl) fun K hK => ?_
  go_simp
  with_reducible refine (YT.out _).mono ?_
  rintro e wA60 ⟨rfl, hb⟩
  have SA60 : Below wn1.heap.size wn1 wA60 := SA59.trans (hb.mono SA59.size)
  clear hb
  refine hK _ _ ⟨SA60, ?_⟩
  clear hK K
  try simp only [Act.put, List.setIfInBounds_toArray, List.set_cons_zero, List.set_cons_succ]
  refine takeH 4 (oi := ⟨some 5, _, _, _, _, _⟩) (v := ?_) rfl (by kernel_rfl) (by kernel_rfl) (by kernel_rfl) (fun _ _ _ h => h) (Or.inl ⟨by rfl, ?hyA61⟩) SA60 ?restA61
  case hyA61 => (intro W hW; (try dsimp only at hW); go_simp; try with_reducible rfl)
  try simp only [Act.put, List.setIfInBounds_toArray, List.set_cons_zero, List.set_cons_succ]
  refine takeH 5 (oi := ⟨some 6, _, _, _, _, _⟩) (v := ?_) rfl (by kernel_rfl) (by kernel_rfl) (by kernel_rfl) (fun _ _ _ h => h) (Or.inl ⟨by rfl, ?hyA62⟩) SA60 ?restA62
  case hyA62 => (intro W hW; (try dsimp only at hW); go_simp; try with_reducible rfl)
  try simp only [Act.put, List.setIfInBounds_toArray, List.set_cons_zero, List.set_cons_succ]
  refine wpAnyH_done (by kernel_rfl) ?_ _
  clear qaA0 qaA1 qaA2 uaA0 uaA1 uaA2
  have D2 := Lib.hid (D1.out.on SA60)
  generalize wA60 = W3 at D2 ⊢
  go_upto_region 6 with (fail)
  have hBB : Below W3.heap.size W3 ({ W3 with drawn := W3.drawn + 1 } : World) := ⟨rfl, rfl, rfl, Nat.le_refl _, fun _ _ => rfl⟩
  refine wp_region_held (S := Below W3.heap.size W3) (by kernel_rfl) ?_
  have hSB := hBB
  generalize ({ W3 with drawn := W3.drawn + 1 } : World) = wB at hSB hBB ⊢
  have hleB := D2.out.bel.size
  have hslB := hSB.size
  have qaB0 : ∀ W, Below W3.heap.size W3 W → W.cell? ⟨w.heap.size, 0, none⟩ = some (.int .i64 k) := fun W hW => ((D2.out.on hW).blk _ (List.mem_cons_of_mem _ (List.mem_cons_self))).2.cell 0 _ rfl
  have qaB1 : ∀ W, Below W3.heap.size W3 W → W.cell? ⟨w.heap.size, 1, none⟩ = some (.int .i64 n) := fun W hW => ((D2.out.on hW).blk _ (List.mem_cons_of_mem _ (List.mem_cons_self))).2.cell 1 _ rfl
  have qaB2 : ∀ W, Below W3.heap.size W3 W → W.cell? ⟨w.heap.size, 2, none⟩ = some (.string s) := fun W hW => ((D2.out.on hW).blk _ (List.mem_cons_of_mem _ (List.mem_cons_self))).2.cell 2 _ rfl
  refine takeH 0 (oi := ⟨some 28, _, _, _, _, _⟩) (v := ?_) rfl (by kernel_rfl) (by kernel_rfl) (by kernel_rfl) (fun _ _ _ h => h) (Or.inl ⟨by rfl, ?hyB63⟩) hSB ?restB63
  case hyB63 => (intro W hW; (try dsimp only at hW); go_simp; try with_reducible rfl)
  try simp only [Act.put, List.setIfInBounds_toArray, List.set_cons_zero, List.set_cons_succ]
  refine takeH 2 (oi := ⟨some 30, _, _, _, _, _⟩) (v := ?_) rfl (by kernel_rfl) (by kernel_rfl) (by kernel_rfl) (fun _ _ _ h => h) (Or.inl ⟨by rfl, ?hyB64⟩) hSB ?restB64
  case hyB64 => (intro W hW; (try dsimp only at hW); go_simp; try with_reducible rfl)
  try simp only [Act.put, List.setIfInBounds_toArray, List.set_cons_zero, List.set_cons_succ]
  refine takeH 4 (oi := ⟨some 32, _, _, _, _, _⟩) (v := ?_) rfl (by kernel_rfl) (by kernel_rfl) (by kernel_rfl) (fun _ _ _ h => h) (Or.inl ⟨by rfl, ?hyB65⟩) hSB ?restB65
  case hyB65 => (intro W hW; (try dsimp only at hW); go_simp; try with_reducible rfl)
  try simp only [Act.put, List.setIfInBounds_toArray, List.set_cons_zero, List.set_cons_succ]
  refine takeH 6 (oi := ⟨some 34, _, _, _, _, _⟩) (v := ?_) rfl (by kernel_rfl) (by kernel_rfl) (by kernel_rfl) (fun _ _ _ h => h) (Or.inl ⟨by rfl, ?hyB66⟩) hSB ?restB66
  case hyB66 => (intro W hW; (try dsimp only at hW); go_simp; try with_reducible rfl)
  try simp only [Act.put, List.setIfInBounds_toArray, List.set_cons_zero, List.set_cons_succ]
  refine takeH 7 (oi := ⟨some 35, _, _, _, _, _⟩) (v := ?_) rfl (by kernel_rfl) (by kernel_rfl) (by kernel_rfl) (fun _ _ _ h => h) (Or.inl ⟨by rfl, ?hyB67⟩) hSB ?restB67
  case hyB67 => (intro W hW; (try dsimp only at hW); go_simp; try with_reducible rfl)
  try simp only [Act.put, List.setIfInBounds_toArray, List.set_cons_zero, List.set_cons_succ]
  refine takeH 9 (oi := ⟨some 37, _, _, _, _, _⟩) (v := ?_) rfl (by kernel_rfl) (by kernel_rfl) (by kernel_rfl) (fun _ _ _ h => h) (Or.inl ⟨by rfl, ?hyB68⟩) hSB ?restB68
  case hyB68 => (intro W hW; (try dsimp only at hW); go_simp; try with_reducible rfl)
  try simp only [Act.put, List.setIfInBounds_toArray, List.set_cons_zero, List.set_cons_succ]
  refine takeH 10 (oi := ⟨some 38, _, _, _, _, _⟩) (v := ?_) rfl (by kernel_rfl) (by kernel_rfl) (by kernel_rfl) (fun _ _ _ h => h) (Or.inl ⟨by rfl, ?hyB69⟩) hSB ?restB69
  case hyB69 => (intro W hW; (try dsimp only at hW); go_simp; try with_reducible rfl)
  try simp only [Act.put, List.setIfInBounds_toArray, List.set_cons_zero, List.set_cons_succ]
  refine takeH 13 (oi := ⟨some 41, _, _, _, _, _⟩) (v := ?_) rfl (by kernel_rfl) (by kernel_rfl) (by kernel_rfl) (fun _ _ _ h => h) (Or.inl ⟨by rfl, ?hyB70⟩) hSB ?restB70
  case hyB70 => (intro W hW; (try dsimp only at hW); go_simp; try with_reducible rfl)
  try simp only [Act.put, List.setIfInBounds_toArray, List.set_cons_zero, List.set_cons_succ]
  refine one (i := 1) (by kernel_rfl) ?_
  refine wpOp_wanted rfl (by rfl) fun K hK => ?_
  go_simp
  with_reducible refine (C1.out _).mono ?_
  rintro e wB71 ⟨rfl, hb⟩
  have SB71 : Below W3.heap.size W3 wB71 := hSB.trans (hb.mono hSB.size)
  clear hb
  refine hK _ _ ⟨SB71, ?_⟩
  clear hK K
  try simp only [Act.put, List.setIfInBounds_toArray, List.set_cons_zero, List.set_cons_succ]
  refine one (i := 3) (by kernel_rfl) ?_
  refine wpOp_wanted rfl (by rfl) fun K hK => ?_
  go_simp
  with_reducible refine (C2.out _).mono ?_
  rintro e wB72 ⟨rfl, hb⟩
  have SB72 : Below W3.heap.size W3 wB72 := SB71.trans (hb.mono SB71.size)
  clear hb
  refine hK _ _ ⟨SB72, ?_⟩
  clear hK K
  try simp only [Act.put, List.setIfInBounds_toArray, List.set_cons_zero, List.set_cons_succ]
  refine one (i := 5) (by kernel_rfl) ?_
  refine wpOp_wanted rfl (by rfl) fun K hK => ?_
  go_simp
  with_reducible refine (C3.out _).mono ?_
  rintro e wB73 ⟨rfl, hb⟩
  have SB73 : Below W3.heap.size W3 wB73 := SB72.trans (hb.mono SB72.size)
  clear hb
  refine hK _ _ ⟨SB73, ?_⟩
  clear hK K
  try simp only [Act.put, List.setIfInBounds_toArray, List.set_cons_zero, List.set_cons_succ]
  refine one (i := 8) (by kernel_rfl) ?_
  refine wpOp_wanted rfl (by rfl) fun K hK => ?_
  go_simp
  with_reducible refine (C4.out _ (T0.out.on (D2.out.on SB73).bel)).mono ?_
  rintro e wB74 ⟨rfl, hb⟩
  have SB74 : Below W3.heap.size W3 wB74 := SB73.trans (hb.mono SB73.size)
  clear hb
  refine hK _ _ ⟨SB74, ?_⟩
  clear hK K
  try simp only [Act.put, List.setIfInBounds_toArray, List.set_cons_zero, List.set_cons_succ]
  refine one (i := 11) (by kernel_rfl) ?_
  refine wpOp_wanted rfl (by rfl) fun K hK => ?_
  go_simp
  with_reducible refine (C5.out _ (T0.out.on (D2.out.on SB74).bel)).mono ?_
  rintro e wB75 ⟨rfl, hb⟩
  have SB75 : Below W3.heap.size W3 wB75 := SB74.trans (hb.mono SB74.size)
  clear hb
  refine hK _ _ ⟨SB75, ?_⟩
  clear hK K
  try simp only [Act.put, List.setIfInBounds_toArray, List.set_cons_zero, List.set_cons_succ]
  refine takeH 12 (oi := ⟨some 40, _, _, _, _, _⟩) (v := ?_) rfl (by kernel_rfl) (by kernel_rfl) (by kernel_rfl) (fun _ _ _ h => h) (Or.inl ⟨by rfl, ?hyB76⟩) SB75 ?restB76
  case hyB76 => (intro W hW; (try dsimp only at hW); go_simp; try with_reducible rfl)
  try simp only [Act.put, List.setIfInBounds_toArray, List.set_cons_zero, List.set_cons_succ]
  refine wpAnyH_done (by kernel_rfl) ?_ _
  clear qaB0 qaB1 qaB2
  have D3 := Lib.hid (D2.out.on SB75)
  generalize wB75 = W4 at D3 ⊢
  go_wp2
  go_loopw [8, 41] (fun tv iv wr => ∃ j : Nat, j ≤ 5 ∧ iv = .int .i64 j ∧ Hid (OD w [(w.heap.size + 1, 32, [.int .i64 k2, .int .i64 n2, .string s2]), (w.heap.size, 32, [.int .i64 k, .int .i64 n, .string s])] wr)) (fun _ iv _ => 5 - (intOf iv).toNat)
  case atStart => exact ⟨0, by omega, rfl, D3⟩
  case round =>
    obtain ⟨j, hj, rfl, HD⟩ := hrel
    by_cases e0 : j = 0
    · subst e0
      clear hj
      go_wp2_with (go_at_call 33; go_loud (with_reducible refine (E1.out _).mono ?_; rintro e wn4 ⟨rfl, hb⟩; have D4 := Lib.hid ((HD.out).on hb); clear hb))
      go_roundw
      case rel => exact ⟨1, by omega, by first | rfl | go_num, D4⟩
      case measure => simp [intOf]
    by_cases e1 : j = 1
    · subst e1
      clear hj
      go_wp2_with (go_at_call 33; go_loud (with_reducible refine (E2.out _).mono ?_; rintro e wn4 ⟨rfl, hb⟩; have D4 := Lib.hid ((HD.out).on hb); clear hb))
      go_roundw
      case rel => exact ⟨2, by omega, by first | rfl | go_num, D4⟩
      case measure => simp [intOf]
    by_cases e2 : j = 2
    · subst e2
      clear hj
      go_wp2_with (go_at_call 33; go_loud (with_reducible refine (E3.out _).mono ?_; rintro e wn4 ⟨rfl, hb⟩; have D4 := Lib.hid ((HD.out).on hb); clear hb))
      go_roundw
      case rel => exact ⟨3, by omega, by first | rfl | go_num, D4⟩
      case measure => simp [intOf]
    by_cases e3 : j = 3
    · subst e3
      clear hj
      go_wp2_with (go_at_call 33; go_loud (with_reducible refine (E4.out _).mono ?_; rintro e wn4 ⟨rfl, hb⟩; have D4 := Lib.hid ((HD.out).on hb); clear hb))
      go_roundw
      case rel => exact ⟨4, by omega, by first | rfl | go_num, D4⟩
      case measure => simp [intOf]
    by_cases e4 : j = 4
    · subst e4
      clear hj
      go_wp2_with (go_at_call 33; go_loud (with_reducible refine (E5.out _).mono ?_; rintro e wn4 ⟨rfl, hb⟩; have D4 := Lib.hid ((HD.out).on hb); clear hb))
      go_roundw
      case rel => exact ⟨5, by omega, by first | rfl | go_num, D4⟩
      case measure => simp [intOf]
    obtain rfl : j = 5 := by omega
    go_upto_region 12 with (fail)
    have hBE : Below wr.heap.size wr ({ wr with drawn := wr.drawn + 1 } : World) := ⟨rfl, rfl, rfl, Nat.le_refl _, fun _ _ => rfl⟩
    refine wp_region_held (S := Below wr.heap.size wr) (by kernel_rfl) ?_
    have hSE := hBE
    generalize ({ wr with drawn := wr.drawn + 1 } : World) = wE at hSE hBE ⊢
    have hleE := HD.out.bel.size
    have hslE := hSE.size
    have qaE0 : ∀ W, Below wr.heap.size wr W → W.cell? ⟨w.heap.size, 0, none⟩ = some (.int .i64 k) := fun W hW => ((HD.out.on hW).blk _ (List.mem_cons_of_mem _ (List.mem_cons_self))).2.cell 0 _ rfl
    have qaE1 : ∀ W, Below wr.heap.size wr W → W.cell? ⟨w.heap.size, 1, none⟩ = some (.int .i64 n) := fun W hW => ((HD.out.on hW).blk _ (List.mem_cons_of_mem _ (List.mem_cons_self))).2.cell 1 _ rfl
    have qaE2 : ∀ W, Below wr.heap.size wr W → W.cell? ⟨w.heap.size, 2, none⟩ = some (.string s) := fun W hW => ((HD.out.on hW).blk _ (List.mem_cons_of_mem _ (List.mem_cons_self))).2.cell 2 _ rfl
    have uaE0 : ∀ W, Below wr.heap.size wr W → W.cell? ⟨w.heap.size + 1, 0, none⟩ = some (.int .i64 k2) := fun W hW => ((HD.out.on hW).blk _ (List.mem_cons_self)).2.cell 0 _ rfl
    have uaE1 : ∀ W, Below wr.heap.size wr W → W.cell? ⟨w.heap.size + 1, 1, none⟩ = some (.int .i64 n2) := fun W hW => ((HD.out.on hW).blk _ (List.mem_cons_self)).2.cell 1 _ rfl
    have uaE2 : ∀ W, Below wr.heap.size wr W → W.cell? ⟨w.heap.size + 1, 2, none⟩ = some (.string s2) := fun W hW => ((HD.out.on hW).blk _ (List.mem_cons_self)).2.cell 2 _ rfl
    refine takeH 0 (oi := ⟨some 51, _, _, _, _, _⟩) (v := ?_) rfl (by kernel_rfl) (by kernel_rfl) (by kernel_rfl) (fun _ _ _ h => h) (Or.inl ⟨by rfl, ?hyE77⟩) hSE ?restE77
    case hyE77 => (intro W hW; (try dsimp only at hW); go_simp; try with_reducible rfl)
    try simp only [Act.put, List.setIfInBounds_toArray, List.set_cons_zero, List.set_cons_succ]
    refine takeH 1 (oi := ⟨some 52, _, _, _, _, _⟩) (v := ?_) rfl (by kernel_rfl) (by kernel_rfl) (by kernel_rfl) (fun _ _ _ h => h) (Or.inl ⟨by rfl, ?hyE78⟩) hSE ?restE78
    case hyE78 => (intro W hW; (try dsimp only at hW); go_simp; try with_reducible rfl)
    try simp only [Act.put, List.setIfInBounds_toArray, List.set_cons_zero, List.set_cons_succ]
    refine takeH 3 (oi := ⟨some 54, _, _, _, _, _⟩) (v := ?_) rfl (by kernel_rfl) (by kernel_rfl) (by kernel_rfl) (fun _ _ _ h => h) (Or.inl ⟨by rfl, ?hyE79⟩) hSE ?restE79
    case hyE79 => (intro W hW; (try dsimp only at hW); go_simp; try with_reducible rfl)
    try simp only [Act.put, List.setIfInBounds_toArray, List.set_cons_zero, List.set_cons_succ]
    refine takeH 4 (oi := ⟨some 55, _, _, _, _, _⟩) (v := ?_) rfl (by kernel_rfl) (by kernel_rfl) (by kernel_rfl) (fun _ _ _ h => h) (Or.inl ⟨by rfl, ?hyE80⟩) hSE ?restE80
    case hyE80 => (intro W hW; (try dsimp only at hW); go_simp; try with_reducible rfl)
    try simp only [Act.put, List.setIfInBounds_toArray, List.set_cons_zero, List.set_cons_succ]
    refine one (i := 2) (by kernel_rfl) ?_
    refine wpOp_wanted rfl (by rfl) fun K hK => ?_
    go_simp
    with_reducible refine (CC.out _).mono ?_
    rintro e wE81 ⟨rfl, hb⟩
    have SE81 : Below wr.heap.size wr wE81 := hSE.trans (hb.mono hSE.size)
    clear hb
    refine hK _ _ ⟨SE81, ?_⟩
    clear hK K
    try simp only [Act.put, List.setIfInBounds_toArray, List.set_cons_zero, List.set_cons_succ]
    refine one (i := 5) (by kernel_rfl) ?_
    refine wpOp_wanted rfl (by rfl) fun K hK => ?_
    go_simp
    with_reducible refine (CD.out _).mono ?_
    rintro e wE82 ⟨rfl, hb⟩
    have SE82 : Below wr.heap.size wr wE82 := SE81.trans (hb.mono SE81.size)
    clear hb
    refine hK _ _ ⟨SE82, ?_⟩
    clear hK K
    try simp only [Act.put, List.setIfInBounds_toArray, List.set_cons_zero, List.set_cons_succ]
    refine takeH 6 (oi := ⟨some 9, _, _, _, _, _⟩) (v := ?_) rfl (by kernel_rfl) (by kernel_rfl) (by kernel_rfl) (fun _ _ _ h => h) (Or.inl ⟨by rfl, ?hyE83⟩) SE82 ?restE83
    case hyE83 => (intro W hW; (try dsimp only at hW); go_simp; try with_reducible rfl)
    try simp only [Act.put, List.setIfInBounds_toArray, List.set_cons_zero, List.set_cons_succ]
    refine takeH 7 (oi := ⟨some 10, _, _, _, _, _⟩) (v := ?_) rfl (by kernel_rfl) (by kernel_rfl) (by kernel_rfl) (fun _ _ _ h => h) (Or.inl ⟨by rfl, ?hyE84⟩) SE82 ?restE84
    case hyE84 => (intro W hW; (try dsimp only at hW); go_simp; try with_reducible rfl)
    try simp only [Act.put, List.setIfInBounds_toArray, List.set_cons_zero, List.set_cons_succ]
    refine wpAnyH_done (by kernel_rfl) ?_ _
    clear qaE0 qaE1 qaE2 uaE0 uaE1 uaE2
    have D5 := Lib.hid (HD.out.on SE82)
    generalize wE82 = W5 at D5 ⊢
    have u0 := (D5.out.blk _ (List.mem_cons_self)).2.cell 0 _ rfl; have uz0 := (D5.out.blk _ (List.mem_cons_self)).2.frozen 0; have u1 := (D5.out.blk _ (List.mem_cons_self)).2.cell 1 _ rfl; have uz1 := (D5.out.blk _ (List.mem_cons_self)).2.frozen 1; have u2 := (D5.out.blk _ (List.mem_cons_self)).2.cell 2 _ rfl; have uz2 := (D5.out.blk _ (List.mem_cons_self)).2.frozen 2; have ult := (D5.out).bl (List.mem_cons_self); have q0 := (D5.out.blk _ (List.mem_cons_of_mem _ (List.mem_cons_self))).2.cell 0 _ rfl; have qz0 := (D5.out.blk _ (List.mem_cons_of_mem _ (List.mem_cons_self))).2.frozen 0; have q1 := (D5.out.blk _ (List.mem_cons_of_mem _ (List.mem_cons_self))).2.cell 1 _ rfl; have qz1 := (D5.out.blk _ (List.mem_cons_of_mem _ (List.mem_cons_self))).2.frozen 1; have q2 := (D5.out.blk _ (List.mem_cons_of_mem _ (List.mem_cons_self))).2.cell 2 _ rfl; have qz2 := (D5.out.blk _ (List.mem_cons_of_mem _ (List.mem_cons_self))).2.frozen 2; have qlt := (D5.out).bl (List.mem_cons_of_mem _ (List.mem_cons_self))
    go_wp2_with (first | (go_at_call 34; go_loud (with_reducible refine (HX.out _).mono ?_; rintro e wn6 ⟨rfl, hb⟩; have D6 := Lib.hid ((D5.out).on hb); clear hb; have u0 := (D6.out.blk _ (List.mem_cons_self)).2.cell 0 _ rfl; have uz0 := (D6.out.blk _ (List.mem_cons_self)).2.frozen 0; have u1 := (D6.out.blk _ (List.mem_cons_self)).2.cell 1 _ rfl; have uz1 := (D6.out.blk _ (List.mem_cons_self)).2.frozen 1; have u2 := (D6.out.blk _ (List.mem_cons_self)).2.cell 2 _ rfl; have uz2 := (D6.out.blk _ (List.mem_cons_self)).2.frozen 2; have ult := (D6.out).bl (List.mem_cons_self); have q0 := (D6.out.blk _ (List.mem_cons_of_mem _ (List.mem_cons_self))).2.cell 0 _ rfl; have qz0 := (D6.out.blk _ (List.mem_cons_of_mem _ (List.mem_cons_self))).2.frozen 0; have q1 := (D6.out.blk _ (List.mem_cons_of_mem _ (List.mem_cons_self))).2.cell 1 _ rfl; have qz1 := (D6.out.blk _ (List.mem_cons_of_mem _ (List.mem_cons_self))).2.frozen 1; have q2 := (D6.out.blk _ (List.mem_cons_of_mem _ (List.mem_cons_self))).2.cell 2 _ rfl; have qz2 := (D6.out.blk _ (List.mem_cons_of_mem _ (List.mem_cons_self))).2.frozen 2; have qlt := (D6.out).bl (List.mem_cons_of_mem _ (List.mem_cons_self)))) | (go_at_call 34; go_loud (with_reducible refine (HY.out _).mono ?_; rintro e wn7 ⟨rfl, hb⟩; have D7 := Lib.hid ((D6.out).on hb); clear hb; have u0 := (D7.out.blk _ (List.mem_cons_self)).2.cell 0 _ rfl; have uz0 := (D7.out.blk _ (List.mem_cons_self)).2.frozen 0; have u1 := (D7.out.blk _ (List.mem_cons_self)).2.cell 1 _ rfl; have uz1 := (D7.out.blk _ (List.mem_cons_self)).2.frozen 1; have u2 := (D7.out.blk _ (List.mem_cons_self)).2.cell 2 _ rfl; have uz2 := (D7.out.blk _ (List.mem_cons_self)).2.frozen 2; have ult := (D7.out).bl (List.mem_cons_self); have q0 := (D7.out.blk _ (List.mem_cons_of_mem _ (List.mem_cons_self))).2.cell 0 _ rfl; have qz0 := (D7.out.blk _ (List.mem_cons_of_mem _ (List.mem_cons_self))).2.frozen 0; have q1 := (D7.out.blk _ (List.mem_cons_of_mem _ (List.mem_cons_self))).2.cell 1 _ rfl; have qz1 := (D7.out.blk _ (List.mem_cons_of_mem _ (List.mem_cons_self))).2.frozen 1; have q2 := (D7.out.blk _ (List.mem_cons_of_mem _ (List.mem_cons_self))).2.cell 2 _ rfl; have qz2 := (D7.out.blk _ (List.mem_cons_of_mem _ (List.mem_cons_self))).2.frozen 2; have qlt := (D7.out).bl (List.mem_cons_of_mem _ (List.mem_cons_self)))) | (go_at_call 24; go_loud (with_reducible refine (AR.out _ (T0.out.on D7.out.bel)).mono ?_; rintro e wn8 ⟨rfl, hb⟩; have D8 := Lib.hid ((D7.out).on hb); clear hb)) | (go_at_call 33; go_loud (with_reducible refine (F1.out _).mono ?_; rintro e wn9 ⟨rfl, hb⟩; have D9 := Lib.hid ((D8.out).on hb); clear hb)) | (go_at_call 33; go_loud (with_reducible refine (F2.out _).mono ?_; rintro e wn10 ⟨rfl, hb⟩; have D10 := Lib.hid ((D9.out).on hb); clear hb)))
    go_ret
    exact ⟨rfl, D10.out.bel⟩
def tails (x : ByteArray) : ByteArray := ((⟨#[32, 97, 32]⟩ : ByteArray) ++ x) ++ (⟨#[32, 118, 97, 108, 117, 101]⟩ : ByteArray)
theorem att_ends (a : ByteArray) (k : Int) : endsB (attS a k) (tails (typeS k)) = true := by
  have e : attS a k = ((⟨#[97, 116, 116, 101, 109, 112, 116, 32, 116, 111, 32]⟩ : ByteArray) ++ a) ++ tails (typeS k) := by unfold attS tails; simp only [ByteArray.append_assoc]
  rw [e]; exact endsB_app _ _
theorem att_size (a : ByteArray) (k : Int) (ha : a.size ≤ 100) : (attS a k).size ≤ 1000 := by
  have h := typeS_size k
  unfold attS
  simp only [ByteArray.size_append, sizeL, List.length_cons, List.length_nil]; omega
theorem tails_size (k : Int) : (tails (typeS k)).size ≤ 1000 := by
  have h := typeS_size k
  unfold tails
  simp only [ByteArray.size_append, sizeL, List.length_cons, List.length_nil]; omega
theorem cmp_size (k k2 : Int) : (cmpS k k2).size ≤ 1000 := by
  have h := typeS_size k
  have h2 := typeS_size k2
  unfold cmpS
  split <;> (simp only [ByteArray.size_append, sizeL, List.length_cons, List.length_nil]; omega)
def kinds : List ByteArray := [⟨#[110, 105, 108]⟩, ⟨#[98, 111, 111, 108, 101, 97, 110]⟩, ⟨#[110, 117, 109, 98, 101, 114]⟩, ⟨#[115, 116, 114, 105, 110, 103]⟩, ⟨#[116, 97, 98, 108, 101]⟩, ⟨#[102, 117, 110, 99, 116, 105, 111, 110]⟩, ⟨#[116, 104, 114, 101, 97, 100]⟩, ⟨#[]⟩]
theorem typeS_mem (k : Int) : typeS k ∈ kinds := by
  unfold typeS; repeat' split
  all_goals simp [kinds]
theorem cmp_ne : ∀ a ∈ kinds, ∀ b ∈ kinds, a ≠ b → ((⟨#[97, 116, 116, 101, 109, 112, 116, 32, 116, 111, 32, 99, 111, 109, 112, 97, 114, 101, 32]⟩ : ByteArray) ++ a) ++ (⟨#[32, 119, 105, 116, 104, 32]⟩ : ByteArray) ++ b ≠ ((⟨#[97, 116, 116, 101, 109, 112, 116, 32, 116, 111, 32, 99, 111, 109, 112, 97, 114, 101, 32]⟩ : ByteArray) ++ b) ++ (⟨#[32, 119, 105, 116, 104, 32]⟩ : ByteArray) ++ a := by decide +kernel
theorem eApp (a k : ByteArray) : a ++ k ++ (⟨#[]⟩ : ByteArray) = a ++ k := by apply ByteArray.ext; rw [ByteArray.data_append]; exact Array.append_empty
theorem wname_walk (k n : Int) (s : ByteArray) (k2 n2 : Int) (s2 : ByteArray) (hn : -9223372036854775808 ≤ n ∧ n ≤ 9223372036854775807) (w : World) (hT : Tab w) : Calls Tryd.prog 6 #[.agg #[.int .i64 k, .int .i64 n, .string s], .agg #[.int .i64 k2, .int .i64 n2, .string s2]] w fun e w' => e = .returned (.bool true) ∧ Below w.heap.size w w' := by
  by_cases g1 : 10000 < (s.size : Int)
  · exact wnG1 k n s k2 n2 s2 (decide_eq_true g1) w hT
  by_cases g2 : 10000 < (s2.size : Int)
  · exact wnG2 k n s k2 n2 s2 (decide_eq_false g1) (decide_eq_true g2) w hT
  have h1 := decide_eq_false g1
  have h2 := decide_eq_false g2
  have hs : s.size ≤ 140737488351232 := by omega
  have ti := tails_size k
  have ti2 := tails_size k2
  have ends : ∀ (a : ByteArray) (q : Int) W, a.size ≤ 100 → typeS q = typeS k → Calls Tryd.prog 33 #[.string (attS a q), .string (tails (typeS k))] W fun e w' => e = .returned (.bool true) ∧ Below W.heap.size W w' := by
    intro a q W ha hq
    have z := att_size a q ha
    have := hEnds (attS a q) (tails (typeS k)) W (by omega) (by omega)
    rw [← hq, att_ends] at this
    rw [← hq]
    exact this
  have c4 := fun W hW => cArith k n s k n s hs W hW
  have c5 := fun W hW => cConcat k n s k n s hn W hW
  simp only [ite_self] at c4 c5
  have ar := fun W hW => cArith k n s k2 n2 s2 hs W hW
  obtain ⟨kk, hkk⟩ : ∃ kk, (if (numberT k n s).2 = true then k2 else k) = kk := ⟨_, rfl⟩
  have hk12 : kk = k ∨ kk = k2 := by rw [← hkk]; split; exact Or.inr rfl; exact Or.inl rfl
  rw [hkk] at ar
  clear hkk
  have cz := cmp_size k k2
  by_cases he : typeS k = typeS k2
  · have hC : cmpS k2 k = cmpS k k2 := by unfold cmpS; rw [he]
    have hx := fun W => hHas (cmpS k k2) (typeS k) (⟨#[97, 116, 116, 101, 109, 112, 116, 32, 116, 111, 32, 99, 111, 109, 112, 97, 114, 101, 32, 116, 119, 111, 32]⟩ : ByteArray) (⟨#[32, 118, 97, 108, 117, 101, 115]⟩ : ByteArray) W (by unfold cmpS; rw [if_pos (by rw [he])]) (by omega) _ _ rfl rfl
    have hq : typeS kk = typeS k := by rcases hk12 with rfl | rfl; rfl; exact he.symm
    exact wnS k n s k2 n2 s2 (typeS k) _ _ _ _ _ _ _ h1 h2 (typeS_size k) (fun W => type_calls k n s _ W rfl) (fun W => type_calls k2 n2 s2 _ W (congrArg some he.symm)) (fun W => cIndex k n s W) (fun W => cCall k n s W) (fun W => cLen k n s W) c4 c5
      (fun W => ends aIndex k W (by decide) rfl) (fun W => ends aCall k W (by decide) rfl) (fun W => ends aLen k W (by decide) rfl) (fun W => ends aArith k W (by decide) rfl) (fun W => ends aConcat k W (by decide) rfl)
      (fun W => cCompare k n s k2 n2 s2 W) (fun W => by have := cCompare k2 n2 s2 k n s W; rw [hC] at this; exact this) hx ar (fun W => ends aArith kk W (by decide) hq) w hT
  · have hl : ¬ (typeS k).toList = (typeS k2).toList := fun h => he (toList_inj.1 h)
    have e1 : cmpS k k2 = ((⟨#[97, 116, 116, 101, 109, 112, 116, 32, 116, 111, 32, 99, 111, 109, 112, 97, 114, 101, 32]⟩ : ByteArray) ++ typeS k) ++ (⟨#[32, 119, 105, 116, 104, 32]⟩ : ByteArray) ++ typeS k2 := by unfold cmpS; rw [if_neg hl]
    have e2 : cmpS k2 k = ((⟨#[97, 116, 116, 101, 109, 112, 116, 32, 116, 111, 32, 99, 111, 109, 112, 97, 114, 101, 32]⟩ : ByteArray) ++ typeS k2) ++ (⟨#[32, 119, 105, 116, 104, 32]⟩ : ByteArray) ++ typeS k := by unfold cmpS; rw [if_neg (fun h => hl h.symm)]
    have hne : cmpS k k2 ≠ cmpS k2 k := by rw [e1, e2]; exact cmp_ne _ (typeS_mem k) _ (typeS_mem k2) he
    have hcd : ((cmpS k k2).toList == (cmpS k2 k).toList) = false := by
      rw [beq_eq_false_iff_ne]; exact fun h => hne (toList_inj.1 h)
    have hxy : ((typeS k).toList == (typeS k2).toList) = false := by rw [beq_eq_false_iff_ne]; exact hl
    have hlen : (cmpS k2 k).size = (cmpS k k2).size := by rw [e1, e2]; simp only [ByteArray.size_append]; omega
    have hx := fun W => hHas (cmpS k k2) (typeS k) (⟨#[97, 116, 116, 101, 109, 112, 116, 32, 116, 111, 32, 99, 111, 109, 112, 97, 114, 101, 32]⟩ : ByteArray) ((⟨#[32, 119, 105, 116, 104, 32]⟩ : ByteArray) ++ typeS k2) W (by rw [e1]; simp only [ByteArray.append_assoc]) (by omega) _ _ rfl rfl
    have hy := fun W => hHas (cmpS k k2) (typeS k2) (((⟨#[97, 116, 116, 101, 109, 112, 116, 32, 116, 111, 32, 99, 111, 109, 112, 97, 114, 101, 32]⟩ : ByteArray) ++ typeS k) ++ (⟨#[32, 119, 105, 116, 104, 32]⟩ : ByteArray)) ⟨#[]⟩ W (by rw [e1, eApp]) (by omega) _ _ rfl rfl
    have z := att_size aArith kk (by decide)
    have fe := fun W => hEnds (attS aArith kk) (tails (typeS k)) W (by omega) (by omega)
    cases hb : endsB (attS aArith kk) (tails (typeS k))
    · rw [hb] at fe
      have hk : kk = k2 := by
        rcases hk12 with rfl | rfl
        · rw [att_ends] at hb; cases hb
        · rfl
      subst hk
      have f2 := fun W => hEnds (attS aArith kk) (tails (typeS kk)) W (by omega) (by omega)
      rw [att_ends] at f2
      exact wnD2 k n s kk n2 s2 (typeS k) (typeS kk) _ _ _ _ _ _ _ _ h1 h2 (typeS_size k) (typeS_size kk) hlen hcd hxy (fun W => type_calls k n s _ W rfl) (fun W => type_calls kk n2 s2 _ W rfl) (fun W => cIndex k n s W) (fun W => cCall k n s W) (fun W => cLen k n s W) c4 c5
        (fun W => ends aIndex k W (by decide) rfl) (fun W => ends aCall k W (by decide) rfl) (fun W => ends aLen k W (by decide) rfl) (fun W => ends aArith k W (by decide) rfl) (fun W => ends aConcat k W (by decide) rfl)
        (fun W => cCompare k n s kk n2 s2 W) (fun W => cCompare kk n2 s2 k n s W) hx hy ar fe f2 w hT
    · rw [hb] at fe
      exact wnD1 k n s k2 n2 s2 (typeS k) (typeS k2) _ _ _ _ _ _ _ _ h1 h2 (typeS_size k) (typeS_size k2) hlen hcd hxy (fun W => type_calls k n s _ W rfl) (fun W => type_calls k2 n2 s2 _ W rfl) (fun W => cIndex k n s W) (fun W => cCall k n s W) (fun W => cLen k n s W) c4 c5
        (fun W => ends aIndex k W (by decide) rfl) (fun W => ends aCall k W (by decide) rfl) (fun W => ends aLen k W (by decide) rfl) (fun W => ends aArith k W (by decide) rfl) (fun W => ends aConcat k W (by decide) rfl)
        (fun W => cCompare k n s k2 n2 s2 W) (fun W => cCompare k2 n2 s2 k n s W) hx hy ar fe w hT
end Go.Proofs.YtpgpmldaggpciaaDoor.GW
