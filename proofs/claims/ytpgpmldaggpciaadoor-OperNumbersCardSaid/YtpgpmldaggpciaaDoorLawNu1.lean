/- The statement OperNumbers, walked by hand. -/
import Derived.Test.YtpgpmldaggpciaaDoorGivenD
import Derived.Test.YtpgpmldaggpciaaDoorGreat
import Derived.Test.YtpgpmldaggpciaaDoorOD
import Derived.Test.YtpgpmldaggpciaaDoorAliveE
set_option linter.unusedVariables false
set_option linter.unusedSimpArgs false
namespace Go.Proofs.YtpgpmldaggpciaaDoor.GW
open Go.RowKit Go.Proofs.YtpgpmldaggpciaaDoorW.PrintWords Go.Proofs.YtpgpmldaggpciaaDoorW.PrintLast Go.Proofs.YtpgpmldaggpciaaDoorW.PrintMore Go.Proofs.YtpgpmldaggpciaaDoor.Maths Go.Proofs.YtpgpmldaggpciaaDoor.TabW Go.Proofs.YtpgpmldaggpciaaDoor.HK Go.Proofs.YtpgpmldaggpciaaDoor.Val
section
variable {P : Program} {md : Region.Mode} {ops : Array Oper} {Q : Exit → Act → World → Prop} {S : World → Prop}
theorem one {i : Nat} {fuel : Nat} {listed : Array Bool} {a : Act} {w : World} (hr : Region.ready md ops listed = [i]) (h : wpOp P ops Q i (fun a' w' => S w' ∧ wpAnyH P md ops Q S fuel (listed.setIfInBounds i true) a' w') a w) : wpAnyH P md ops Q S (fuel + 1) listed a w :=
  wpAnyH_all hr (by simp) (fun j hj => by simp at hj; subst hj; exact h)
theorem wpOp_wanted {i : Nat} {o : Oper} {K : Act → World → Prop} {a : Act} {w : World} (ho : ops[i]? = some o) (hw : Region.wanted o (yielded ops a.tmps) = true) (h : ∀ K' : Act → World → Prop, (∀ a w, K a w → K' a w) → o.wp P a w K' Q) : wpOp P ops Q i K a w := by
  unfold wpOp
  rw [ho]
  simp only [hw, if_true]
  exact .inl (h K fun _ _ h => h)
theorem takeH (i : Nat) {oi : Oper} {v : Value} {fuel : Nat} {listed : Array Bool} {a : Act} {w : World} (hi : ops[i]? = some oi)
    (hs : Region.noSelect ops = true) (hf : Region.free md ops listed i = true) (hr : (Region.ready md ops listed).contains i = true)
    (hQ : ∀ c a w, Q (.panic c) (a.put oi.dst v) w → Q (.panic c) a w) (hy : YieldsIf P ops S oi v a) (hS : S w)
    (h : wpAnyH P md ops Q S fuel (listed.setIfInBounds i true) (a.put oi.dst v) w) : wpAnyH P md ops Q S (fuel + 1) listed a w :=
  wpAnyH_take hi hs hf hr hQ hy hS h
theorem two {i j : Nat} {fuel : Nat} {listed : Array Bool} {a : Act} {w : World} (hr : Region.ready md ops listed = [i, j]) (h1 : wpOp P ops Q i (fun a' w' => S w' ∧ wpAnyH P md ops Q S fuel (listed.setIfInBounds i true) a' w') a w) (h2 : wpOp P ops Q j (fun a' w' => S w' ∧ wpAnyH P md ops Q S fuel (listed.setIfInBounds j true) a' w') a w) : wpAnyH P md ops Q S (fuel + 1) listed a w :=
  wpAnyH_all hr (by simp) (fun q hq => by simp at hq; rcases hq with rfl | rfl; exact h1; exact h2)
end
set_option maxHeartbeats 16000000 in
set_option maxRecDepth 20000 in
theorem nuG (m : Int) (k0 n0 : Int) (s0 : ByteArray) (k1 n1 : Int) (s1 : ByteArray) (hg : ∀ b W, Blk W b 32 [.int .i64 k0, .int .i64 n0, .string s0, .int .i64 k1, .int .i64 n1, .string s1] → Calls Tryd.prog 44 #[.slice (some ⟨b, 0, none⟩) 2 2] W fun e w' => e = .returned (.bool true) ∧ Below W.heap.size W w') (w : World) (hT : Tab w) : Calls Tryd.prog 10 #[.int .u8 m, .agg #[.int .i64 k0, .int .i64 n0, .string s0], .agg #[.int .i64 k1, .int .i64 n1, .string s1]] w fun e w' => e = .returned (.bool true) ∧ Below w.heap.size w w' := by
  have T0 := Lib.hid hT
  have D0 := Lib.hid (OD.start2 w 32 [.int .i64 k0, .int .i64 n0, .string s0] [.int .i64 k1, .int .i64 n1, .string s1])
  have AL := Lib.hid (fun W hW => alive_calls true W hW rfl)
  have GR := Lib.hid hg
  clear hT hg 
  go_enter Tryd.func10, Tryd.ntmps10
  go_wp2_with (first | (go_at_call 43; go_loud (with_reducible refine (AL.out _ (T0.out.on D0.out.bel)).mono ?_; rintro e wn1 ⟨rfl, hb⟩; have D1 := Lib.hid ((D0.out).on hb); clear hb; have u0 := (D1.out.blk _ (List.mem_cons_self)).2.cell 0 _ rfl; have uz0 := (D1.out.blk _ (List.mem_cons_self)).2.frozen 0; have u1 := (D1.out.blk _ (List.mem_cons_self)).2.cell 1 _ rfl; have uz1 := (D1.out.blk _ (List.mem_cons_self)).2.frozen 1; have u2 := (D1.out.blk _ (List.mem_cons_self)).2.cell 2 _ rfl; have uz2 := (D1.out.blk _ (List.mem_cons_self)).2.frozen 2; have ult := (D1.out).bl (List.mem_cons_self); have q0 := (D1.out.blk _ (List.mem_cons_of_mem _ (List.mem_cons_self))).2.cell 0 _ rfl; have qz0 := (D1.out.blk _ (List.mem_cons_of_mem _ (List.mem_cons_self))).2.frozen 0; have q1 := (D1.out.blk _ (List.mem_cons_of_mem _ (List.mem_cons_self))).2.cell 1 _ rfl; have qz1 := (D1.out.blk _ (List.mem_cons_of_mem _ (List.mem_cons_self))).2.frozen 1; have q2 := (D1.out.blk _ (List.mem_cons_of_mem _ (List.mem_cons_self))).2.cell 2 _ rfl; have qz2 := (D1.out.blk _ (List.mem_cons_of_mem _ (List.mem_cons_self))).2.frozen 2; have qlt := (D1.out).bl (List.mem_cons_of_mem _ (List.mem_cons_self)))) | (go_at_call 44; go_loud (with_reducible refine (GR.out _ _ (Blk.new _ [.int .i64 k0, .int .i64 n0, .string s0, .int .i64 k1, .int .i64 n1, .string s1] 32)).mono ?_; rintro e wn2 ⟨rfl, hb⟩; have D2 := Lib.hid ((D1.out.new 32 [.int .i64 k0, .int .i64 n0, .string s0, .int .i64 k1, .int .i64 n1, .string s1]).on hb); clear hb; have u0 := (D2.out.blk _ (List.mem_cons_of_mem _ (List.mem_cons_self))).2.cell 0 _ rfl; have uz0 := (D2.out.blk _ (List.mem_cons_of_mem _ (List.mem_cons_self))).2.frozen 0; have u1 := (D2.out.blk _ (List.mem_cons_of_mem _ (List.mem_cons_self))).2.cell 1 _ rfl; have uz1 := (D2.out.blk _ (List.mem_cons_of_mem _ (List.mem_cons_self))).2.frozen 1; have u2 := (D2.out.blk _ (List.mem_cons_of_mem _ (List.mem_cons_self))).2.cell 2 _ rfl; have uz2 := (D2.out.blk _ (List.mem_cons_of_mem _ (List.mem_cons_self))).2.frozen 2; have ult := (D2.out).bl (List.mem_cons_of_mem _ (List.mem_cons_self)); have q0 := (D2.out.blk _ (List.mem_cons_of_mem _ (List.mem_cons_of_mem _ (List.mem_cons_self)))).2.cell 0 _ rfl; have qz0 := (D2.out.blk _ (List.mem_cons_of_mem _ (List.mem_cons_of_mem _ (List.mem_cons_self)))).2.frozen 0; have q1 := (D2.out.blk _ (List.mem_cons_of_mem _ (List.mem_cons_of_mem _ (List.mem_cons_self)))).2.cell 1 _ rfl; have qz1 := (D2.out.blk _ (List.mem_cons_of_mem _ (List.mem_cons_of_mem _ (List.mem_cons_self)))).2.frozen 1; have q2 := (D2.out.blk _ (List.mem_cons_of_mem _ (List.mem_cons_of_mem _ (List.mem_cons_self)))).2.cell 2 _ rfl; have qz2 := (D2.out.blk _ (List.mem_cons_of_mem _ (List.mem_cons_of_mem _ (List.mem_cons_self)))).2.frozen 2; have qlt := (D2.out).bl (List.mem_cons_of_mem _ (List.mem_cons_of_mem _ (List.mem_cons_self))))))
  go_ret
  exact ⟨rfl, D2.out.bel⟩
set_option maxHeartbeats 16000000 in
set_option maxRecDepth 20000 in
theorem nu11 (m op : Int) (k0 n0 : Int) (s0 : ByteArray) (k1 n1 : Int) (s1 : ByteArray) (x y : Int) (v1 v2 : Int) (v3 : ByteArray) (v4 : Int) (hg : ∀ b W, Blk W b 32 [.int .i64 k0, .int .i64 n0, .string s0, .int .i64 k1, .int .i64 n1, .string s1] → Calls Tryd.prog 44 #[.slice (some ⟨b, 0, none⟩) 2 2] W fun e w' => e = .returned (.bool false) ∧ Below W.heap.size W w') (hop : wrap64 (1 + (wrap64 m).tmod 10) = op) (hx : numberF k0 n0 s0 = some (x, true)) (hy : numberF k1 n1 s1 = some (y, true)) (d1 : doF op k0 n0 s0 k1 n1 s1 0 = some (v1, v2, v3, v4)) (d2 : doF op 2 x ⟨#[]⟩ 2 y ⟨#[]⟩ 0 = some (v1, v2, v3, v4)) (hs : stringF k0 n0 s0 = some (⟨#[]⟩, true)) (ht : stringF k1 n1 s1 = some (⟨#[]⟩, true)) (d3 : doF 11 k0 n0 s0 k1 n1 s1 0 = some (3, 0, ⟨#[]⟩, 0)) (d4 : doF 11 k0 n0 s0 k1 n1 s1 (-1) = some (3, 0, ⟨#[]⟩, 0)) (o1 : oneF 23 3 0 ⟨#[]⟩ = some (2, 0, ⟨#[]⟩, 0)) (hcc : ((⟨#[]⟩ : ByteArray) ++ (⟨#[]⟩ : ByteArray)).toList = []) (hw0 : IntKind.i64.wrap 0 = 0) (w : World) (hT : Tab w) : Calls Tryd.prog 10 #[.int .u8 m, .agg #[.int .i64 k0, .int .i64 n0, .string s0], .agg #[.int .i64 k1, .int .i64 n1, .string s1]] w fun e w' => e = .returned (.bool true) ∧ Below w.heap.size w w' := by
  have T0 := Lib.hid hT
  have D0 := Lib.hid (OD.start2 w 32 [.int .i64 k0, .int .i64 n0, .string s0] [.int .i64 k1, .int .i64 n1, .string s1])
  have AL := Lib.hid (fun W hW => alive_calls true W hW rfl)
  have GR := Lib.hid hg
  have NX := Lib.hid (fun W hW => number_calls k0 n0 s0 x true W hW hx)
  have NY := Lib.hid (fun W hW => number_calls k1 n1 s1 y true W hW hy)
  have E1 := Lib.hid (fun W hW => do_calls op k0 n0 s0 k1 n1 s1 0 (v1) (v2) (v3) (v4) W hW d1)
  have E2 := Lib.hid (fun W hW => do_calls op 2 x ⟨#[]⟩ 2 y ⟨#[]⟩ 0 (v1) (v2) (v3) (v4) W hW d2)
  have SX := Lib.hid (fun W hW => string_calls k0 n0 s0 ⟨#[]⟩ true W hW hs)
  have SY := Lib.hid (fun W hW => string_calls k1 n1 s1 ⟨#[]⟩ true W hW ht)
  have E3 := Lib.hid (fun W hW => do_calls 11 k0 n0 s0 k1 n1 s1 0 (3) (0) (⟨#[]⟩) (0) W hW d3)
  have E4 := Lib.hid (fun W hW => do_calls 11 k0 n0 s0 k1 n1 s1 (-1) (3) (0) (⟨#[]⟩) (0) W hW d4)
  have ON := Lib.hid (fun W hW => one_calls 23 3 0 ⟨#[]⟩ 2 0 ⟨#[]⟩ 0 W hW o1)
  clear hT hg hx hy d1 d2 hs ht d3 d4 o1
  go_enter Tryd.func10, Tryd.ntmps10
  go_upto_region 15 with (first | (go_at_call 43; go_loud (with_reducible refine (AL.out _ (T0.out.on D0.out.bel)).mono ?_; rintro e wn1 ⟨rfl, hb⟩; have D1 := Lib.hid ((D0.out).on hb); clear hb; have u0 := (D1.out.blk _ (List.mem_cons_self)).2.cell 0 _ rfl; have uz0 := (D1.out.blk _ (List.mem_cons_self)).2.frozen 0; have u1 := (D1.out.blk _ (List.mem_cons_self)).2.cell 1 _ rfl; have uz1 := (D1.out.blk _ (List.mem_cons_self)).2.frozen 1; have u2 := (D1.out.blk _ (List.mem_cons_self)).2.cell 2 _ rfl; have uz2 := (D1.out.blk _ (List.mem_cons_self)).2.frozen 2; have ult := (D1.out).bl (List.mem_cons_self); have q0 := (D1.out.blk _ (List.mem_cons_of_mem _ (List.mem_cons_self))).2.cell 0 _ rfl; have qz0 := (D1.out.blk _ (List.mem_cons_of_mem _ (List.mem_cons_self))).2.frozen 0; have q1 := (D1.out.blk _ (List.mem_cons_of_mem _ (List.mem_cons_self))).2.cell 1 _ rfl; have qz1 := (D1.out.blk _ (List.mem_cons_of_mem _ (List.mem_cons_self))).2.frozen 1; have q2 := (D1.out.blk _ (List.mem_cons_of_mem _ (List.mem_cons_self))).2.cell 2 _ rfl; have qz2 := (D1.out.blk _ (List.mem_cons_of_mem _ (List.mem_cons_self))).2.frozen 2; have qlt := (D1.out).bl (List.mem_cons_of_mem _ (List.mem_cons_self)))) | (go_at_call 44; go_loud (with_reducible refine (GR.out _ _ (Blk.new _ [.int .i64 k0, .int .i64 n0, .string s0, .int .i64 k1, .int .i64 n1, .string s1] 32)).mono ?_; rintro e wn2 ⟨rfl, hb⟩; have D2 := Lib.hid ((D1.out.new 32 [.int .i64 k0, .int .i64 n0, .string s0, .int .i64 k1, .int .i64 n1, .string s1]).on hb); clear hb; have u0 := (D2.out.blk _ (List.mem_cons_of_mem _ (List.mem_cons_self))).2.cell 0 _ rfl; have uz0 := (D2.out.blk _ (List.mem_cons_of_mem _ (List.mem_cons_self))).2.frozen 0; have u1 := (D2.out.blk _ (List.mem_cons_of_mem _ (List.mem_cons_self))).2.cell 1 _ rfl; have uz1 := (D2.out.blk _ (List.mem_cons_of_mem _ (List.mem_cons_self))).2.frozen 1; have u2 := (D2.out.blk _ (List.mem_cons_of_mem _ (List.mem_cons_self))).2.cell 2 _ rfl; have uz2 := (D2.out.blk _ (List.mem_cons_of_mem _ (List.mem_cons_self))).2.frozen 2; have ult := (D2.out).bl (List.mem_cons_of_mem _ (List.mem_cons_self)); have q0 := (D2.out.blk _ (List.mem_cons_of_mem _ (List.mem_cons_of_mem _ (List.mem_cons_self)))).2.cell 0 _ rfl; have qz0 := (D2.out.blk _ (List.mem_cons_of_mem _ (List.mem_cons_of_mem _ (List.mem_cons_self)))).2.frozen 0; have q1 := (D2.out.blk _ (List.mem_cons_of_mem _ (List.mem_cons_of_mem _ (List.mem_cons_self)))).2.cell 1 _ rfl; have qz1 := (D2.out.blk _ (List.mem_cons_of_mem _ (List.mem_cons_of_mem _ (List.mem_cons_self)))).2.frozen 1; have q2 := (D2.out.blk _ (List.mem_cons_of_mem _ (List.mem_cons_of_mem _ (List.mem_cons_self)))).2.cell 2 _ rfl; have qz2 := (D2.out.blk _ (List.mem_cons_of_mem _ (List.mem_cons_of_mem _ (List.mem_cons_self)))).2.frozen 2; have qlt := (D2.out).bl (List.mem_cons_of_mem _ (List.mem_cons_of_mem _ (List.mem_cons_self))))) | (go_at_call 52; go_loud (with_reducible refine (NX.out _ (T0.out.on (D2.out).bel)).mono ?_; rintro e wn3 ⟨rfl, hb⟩; have D3 := Lib.hid ((D2.out).on hb); clear hb; have u0 := (D3.out.blk _ (List.mem_cons_of_mem _ (List.mem_cons_self))).2.cell 0 _ rfl; have uz0 := (D3.out.blk _ (List.mem_cons_of_mem _ (List.mem_cons_self))).2.frozen 0; have u1 := (D3.out.blk _ (List.mem_cons_of_mem _ (List.mem_cons_self))).2.cell 1 _ rfl; have uz1 := (D3.out.blk _ (List.mem_cons_of_mem _ (List.mem_cons_self))).2.frozen 1; have u2 := (D3.out.blk _ (List.mem_cons_of_mem _ (List.mem_cons_self))).2.cell 2 _ rfl; have uz2 := (D3.out.blk _ (List.mem_cons_of_mem _ (List.mem_cons_self))).2.frozen 2; have ult := (D3.out).bl (List.mem_cons_of_mem _ (List.mem_cons_self)); have q0 := (D3.out.blk _ (List.mem_cons_of_mem _ (List.mem_cons_of_mem _ (List.mem_cons_self)))).2.cell 0 _ rfl; have qz0 := (D3.out.blk _ (List.mem_cons_of_mem _ (List.mem_cons_of_mem _ (List.mem_cons_self)))).2.frozen 0; have q1 := (D3.out.blk _ (List.mem_cons_of_mem _ (List.mem_cons_of_mem _ (List.mem_cons_self)))).2.cell 1 _ rfl; have qz1 := (D3.out.blk _ (List.mem_cons_of_mem _ (List.mem_cons_of_mem _ (List.mem_cons_self)))).2.frozen 1; have q2 := (D3.out.blk _ (List.mem_cons_of_mem _ (List.mem_cons_of_mem _ (List.mem_cons_self)))).2.cell 2 _ rfl; have qz2 := (D3.out.blk _ (List.mem_cons_of_mem _ (List.mem_cons_of_mem _ (List.mem_cons_self)))).2.frozen 2; have qlt := (D3.out).bl (List.mem_cons_of_mem _ (List.mem_cons_of_mem _ (List.mem_cons_self))))) | (go_at_call 52; go_loud (with_reducible refine (NY.out _ (T0.out.on (D3.out).bel)).mono ?_; rintro e wn4 ⟨rfl, hb⟩; have D4 := Lib.hid ((D3.out).on hb); clear hb; have u0 := (D4.out.blk _ (List.mem_cons_of_mem _ (List.mem_cons_self))).2.cell 0 _ rfl; have uz0 := (D4.out.blk _ (List.mem_cons_of_mem _ (List.mem_cons_self))).2.frozen 0; have u1 := (D4.out.blk _ (List.mem_cons_of_mem _ (List.mem_cons_self))).2.cell 1 _ rfl; have uz1 := (D4.out.blk _ (List.mem_cons_of_mem _ (List.mem_cons_self))).2.frozen 1; have u2 := (D4.out.blk _ (List.mem_cons_of_mem _ (List.mem_cons_self))).2.cell 2 _ rfl; have uz2 := (D4.out.blk _ (List.mem_cons_of_mem _ (List.mem_cons_self))).2.frozen 2; have ult := (D4.out).bl (List.mem_cons_of_mem _ (List.mem_cons_self)); have q0 := (D4.out.blk _ (List.mem_cons_of_mem _ (List.mem_cons_of_mem _ (List.mem_cons_self)))).2.cell 0 _ rfl; have qz0 := (D4.out.blk _ (List.mem_cons_of_mem _ (List.mem_cons_of_mem _ (List.mem_cons_self)))).2.frozen 0; have q1 := (D4.out.blk _ (List.mem_cons_of_mem _ (List.mem_cons_of_mem _ (List.mem_cons_self)))).2.cell 1 _ rfl; have qz1 := (D4.out.blk _ (List.mem_cons_of_mem _ (List.mem_cons_of_mem _ (List.mem_cons_self)))).2.frozen 1; have q2 := (D4.out.blk _ (List.mem_cons_of_mem _ (List.mem_cons_of_mem _ (List.mem_cons_self)))).2.cell 2 _ rfl; have qz2 := (D4.out.blk _ (List.mem_cons_of_mem _ (List.mem_cons_of_mem _ (List.mem_cons_self)))).2.frozen 2; have qlt := (D4.out).bl (List.mem_cons_of_mem _ (List.mem_cons_of_mem _ (List.mem_cons_self))))) | (go_at_call 46; go_loud (with_reducible refine (E1.out _ (T0.out.on (D4.out).bel)).mono ?_; rintro e wn5 ⟨rfl, hb⟩; have D5 := Lib.hid ((D4.out).on hb); clear hb)) | (go_at_call 53; go_loud (with_reducible refine (hInt x _).mono ?_; rintro e wn6 ⟨rfl, hb⟩; have D6 := Lib.hid ((D5.out.new 32 [.int .i64 v1, .int .i64 v2, .string v3]).on hb); clear hb)) | (go_at_call 53; go_loud (with_reducible refine (hInt y _).mono ?_; rintro e wn7 ⟨rfl, hb⟩; have D7 := Lib.hid ((D6.out).on hb); clear hb)) | (go_at_call 46; go_loud (with_reducible refine (E2.out _ (T0.out.on (D7.out).bel)).mono ?_; rintro e wn8 ⟨rfl, hb⟩; have D8 := Lib.hid ((D7.out).on hb); clear hb; have r0 := (D8.out.blk _ (List.mem_cons_self)).2.cell 0 _ rfl; have rz0 := (D8.out.blk _ (List.mem_cons_self)).2.frozen 0; have r1 := (D8.out.blk _ (List.mem_cons_self)).2.cell 1 _ rfl; have rz1 := (D8.out.blk _ (List.mem_cons_self)).2.frozen 1; have r2 := (D8.out.blk _ (List.mem_cons_self)).2.cell 2 _ rfl; have rz2 := (D8.out.blk _ (List.mem_cons_self)).2.frozen 2; have rlt := (D8.out).bl (List.mem_cons_self); have u0 := (D8.out.blk _ (List.mem_cons_of_mem _ (List.mem_cons_of_mem _ (List.mem_cons_self)))).2.cell 0 _ rfl; have uz0 := (D8.out.blk _ (List.mem_cons_of_mem _ (List.mem_cons_of_mem _ (List.mem_cons_self)))).2.frozen 0; have u1 := (D8.out.blk _ (List.mem_cons_of_mem _ (List.mem_cons_of_mem _ (List.mem_cons_self)))).2.cell 1 _ rfl; have uz1 := (D8.out.blk _ (List.mem_cons_of_mem _ (List.mem_cons_of_mem _ (List.mem_cons_self)))).2.frozen 1; have u2 := (D8.out.blk _ (List.mem_cons_of_mem _ (List.mem_cons_of_mem _ (List.mem_cons_self)))).2.cell 2 _ rfl; have uz2 := (D8.out.blk _ (List.mem_cons_of_mem _ (List.mem_cons_of_mem _ (List.mem_cons_self)))).2.frozen 2; have ult := (D8.out).bl (List.mem_cons_of_mem _ (List.mem_cons_of_mem _ (List.mem_cons_self))); have q0 := (D8.out.blk _ (List.mem_cons_of_mem _ (List.mem_cons_of_mem _ (List.mem_cons_of_mem _ (List.mem_cons_self))))).2.cell 0 _ rfl; have qz0 := (D8.out.blk _ (List.mem_cons_of_mem _ (List.mem_cons_of_mem _ (List.mem_cons_of_mem _ (List.mem_cons_self))))).2.frozen 0; have q1 := (D8.out.blk _ (List.mem_cons_of_mem _ (List.mem_cons_of_mem _ (List.mem_cons_of_mem _ (List.mem_cons_self))))).2.cell 1 _ rfl; have qz1 := (D8.out.blk _ (List.mem_cons_of_mem _ (List.mem_cons_of_mem _ (List.mem_cons_of_mem _ (List.mem_cons_self))))).2.frozen 1; have q2 := (D8.out.blk _ (List.mem_cons_of_mem _ (List.mem_cons_of_mem _ (List.mem_cons_of_mem _ (List.mem_cons_self))))).2.cell 2 _ rfl; have qz2 := (D8.out.blk _ (List.mem_cons_of_mem _ (List.mem_cons_of_mem _ (List.mem_cons_of_mem _ (List.mem_cons_self))))).2.frozen 2; have qlt := (D8.out).bl (List.mem_cons_of_mem _ (List.mem_cons_of_mem _ (List.mem_cons_of_mem _ (List.mem_cons_self)))))) | (go_at_call 54; go_loud (with_reducible refine (SX.out _ (T0.out.on (D8.out.new 32 [.int .i64 v1, .int .i64 v2, .string v3]).bel)).mono ?_; rintro e wn9 ⟨rfl, hb⟩; have D9 := Lib.hid ((D8.out.new 32 [.int .i64 v1, .int .i64 v2, .string v3]).on hb); clear hb; have u0 := (D9.out.blk _ (List.mem_cons_of_mem _ (List.mem_cons_of_mem _ (List.mem_cons_of_mem _ (List.mem_cons_self))))).2.cell 0 _ rfl; have uz0 := (D9.out.blk _ (List.mem_cons_of_mem _ (List.mem_cons_of_mem _ (List.mem_cons_of_mem _ (List.mem_cons_self))))).2.frozen 0; have u1 := (D9.out.blk _ (List.mem_cons_of_mem _ (List.mem_cons_of_mem _ (List.mem_cons_of_mem _ (List.mem_cons_self))))).2.cell 1 _ rfl; have uz1 := (D9.out.blk _ (List.mem_cons_of_mem _ (List.mem_cons_of_mem _ (List.mem_cons_of_mem _ (List.mem_cons_self))))).2.frozen 1; have u2 := (D9.out.blk _ (List.mem_cons_of_mem _ (List.mem_cons_of_mem _ (List.mem_cons_of_mem _ (List.mem_cons_self))))).2.cell 2 _ rfl; have uz2 := (D9.out.blk _ (List.mem_cons_of_mem _ (List.mem_cons_of_mem _ (List.mem_cons_of_mem _ (List.mem_cons_self))))).2.frozen 2; have ult := (D9.out).bl (List.mem_cons_of_mem _ (List.mem_cons_of_mem _ (List.mem_cons_of_mem _ (List.mem_cons_self)))); have q0 := (D9.out.blk _ (List.mem_cons_of_mem _ (List.mem_cons_of_mem _ (List.mem_cons_of_mem _ (List.mem_cons_of_mem _ (List.mem_cons_self)))))).2.cell 0 _ rfl; have qz0 := (D9.out.blk _ (List.mem_cons_of_mem _ (List.mem_cons_of_mem _ (List.mem_cons_of_mem _ (List.mem_cons_of_mem _ (List.mem_cons_self)))))).2.frozen 0; have q1 := (D9.out.blk _ (List.mem_cons_of_mem _ (List.mem_cons_of_mem _ (List.mem_cons_of_mem _ (List.mem_cons_of_mem _ (List.mem_cons_self)))))).2.cell 1 _ rfl; have qz1 := (D9.out.blk _ (List.mem_cons_of_mem _ (List.mem_cons_of_mem _ (List.mem_cons_of_mem _ (List.mem_cons_of_mem _ (List.mem_cons_self)))))).2.frozen 1; have q2 := (D9.out.blk _ (List.mem_cons_of_mem _ (List.mem_cons_of_mem _ (List.mem_cons_of_mem _ (List.mem_cons_of_mem _ (List.mem_cons_self)))))).2.cell 2 _ rfl; have qz2 := (D9.out.blk _ (List.mem_cons_of_mem _ (List.mem_cons_of_mem _ (List.mem_cons_of_mem _ (List.mem_cons_of_mem _ (List.mem_cons_self)))))).2.frozen 2; have qlt := (D9.out).bl (List.mem_cons_of_mem _ (List.mem_cons_of_mem _ (List.mem_cons_of_mem _ (List.mem_cons_of_mem _ (List.mem_cons_self))))))) | (go_at_call 54; go_loud (with_reducible refine (SY.out _ (T0.out.on (D9.out).bel)).mono ?_; rintro e wn10 ⟨rfl, hb⟩; have D10 := Lib.hid ((D9.out).on hb); clear hb; have u0 := (D10.out.blk _ (List.mem_cons_of_mem _ (List.mem_cons_of_mem _ (List.mem_cons_of_mem _ (List.mem_cons_self))))).2.cell 0 _ rfl; have uz0 := (D10.out.blk _ (List.mem_cons_of_mem _ (List.mem_cons_of_mem _ (List.mem_cons_of_mem _ (List.mem_cons_self))))).2.frozen 0; have u1 := (D10.out.blk _ (List.mem_cons_of_mem _ (List.mem_cons_of_mem _ (List.mem_cons_of_mem _ (List.mem_cons_self))))).2.cell 1 _ rfl; have uz1 := (D10.out.blk _ (List.mem_cons_of_mem _ (List.mem_cons_of_mem _ (List.mem_cons_of_mem _ (List.mem_cons_self))))).2.frozen 1; have u2 := (D10.out.blk _ (List.mem_cons_of_mem _ (List.mem_cons_of_mem _ (List.mem_cons_of_mem _ (List.mem_cons_self))))).2.cell 2 _ rfl; have uz2 := (D10.out.blk _ (List.mem_cons_of_mem _ (List.mem_cons_of_mem _ (List.mem_cons_of_mem _ (List.mem_cons_self))))).2.frozen 2; have ult := (D10.out).bl (List.mem_cons_of_mem _ (List.mem_cons_of_mem _ (List.mem_cons_of_mem _ (List.mem_cons_self)))); have q0 := (D10.out.blk _ (List.mem_cons_of_mem _ (List.mem_cons_of_mem _ (List.mem_cons_of_mem _ (List.mem_cons_of_mem _ (List.mem_cons_self)))))).2.cell 0 _ rfl; have qz0 := (D10.out.blk _ (List.mem_cons_of_mem _ (List.mem_cons_of_mem _ (List.mem_cons_of_mem _ (List.mem_cons_of_mem _ (List.mem_cons_self)))))).2.frozen 0; have q1 := (D10.out.blk _ (List.mem_cons_of_mem _ (List.mem_cons_of_mem _ (List.mem_cons_of_mem _ (List.mem_cons_of_mem _ (List.mem_cons_self)))))).2.cell 1 _ rfl; have qz1 := (D10.out.blk _ (List.mem_cons_of_mem _ (List.mem_cons_of_mem _ (List.mem_cons_of_mem _ (List.mem_cons_of_mem _ (List.mem_cons_self)))))).2.frozen 1; have q2 := (D10.out.blk _ (List.mem_cons_of_mem _ (List.mem_cons_of_mem _ (List.mem_cons_of_mem _ (List.mem_cons_of_mem _ (List.mem_cons_self)))))).2.cell 2 _ rfl; have qz2 := (D10.out.blk _ (List.mem_cons_of_mem _ (List.mem_cons_of_mem _ (List.mem_cons_of_mem _ (List.mem_cons_of_mem _ (List.mem_cons_self)))))).2.frozen 2; have qlt := (D10.out).bl (List.mem_cons_of_mem _ (List.mem_cons_of_mem _ (List.mem_cons_of_mem _ (List.mem_cons_of_mem _ (List.mem_cons_self))))))) | (go_at_call 46; go_loud (with_reducible refine (E3.out _ (T0.out.on (D10.out).bel)).mono ?_; rintro e wn11 ⟨rfl, hb⟩; have D11 := Lib.hid ((D10.out).on hb); clear hb)))
  have hu := Tryd.underlying32
  have D12 := Lib.hid (D11.out.new 32 [.int .i64 3, .int .i64 0, .string ⟨#[]⟩])
  obtain ⟨w1, hw1⟩ : ∃ z, z = wn11.alloc (.cells #[.int .i64 3, .int .i64 0, .string ⟨#[]⟩] 32) := ⟨_, rfl⟩
  obtain ⟨x20, hx20⟩ : ∃ z, z = wn11.heap.size := ⟨_, rfl⟩
  rw [← hw1] at D12
  rw [← hx20] at D12
  simp only [← hw1, ← hx20]
  clear hw1 hx20
  have hBB : Below w1.heap.size w1 ({ w1 with drawn := w1.drawn + 1 } : World) := ⟨rfl, rfl, rfl, Nat.le_refl _, fun _ _ => rfl⟩
  refine wp_region_held (S := Below w1.heap.size w1) (by kernel_rfl) ?_
  have hSB := hBB
  generalize ({ w1 with drawn := w1.drawn + 1 } : World) = wB at hSB hBB ⊢
  have hleB := D12.out.bel.size
  have hslB := hSB.size
  have caB0 : ∀ W, Below w1.heap.size w1 W → W.cell? ⟨x20, 0, none⟩ = some (.int .i64 3) := fun W hW => ((D12.out.on hW).blk _ (List.mem_cons_self)).2.cell 0 _ rfl
  have caB1 : ∀ W, Below w1.heap.size w1 W → W.cell? ⟨x20, 1, none⟩ = some (.int .i64 0) := fun W hW => ((D12.out.on hW).blk _ (List.mem_cons_self)).2.cell 1 _ rfl
  have caB2 : ∀ W, Below w1.heap.size w1 W → W.cell? ⟨x20, 2, none⟩ = some (.string ⟨#[]⟩) := fun W hW => ((D12.out.on hW).blk _ (List.mem_cons_self)).2.cell 2 _ rfl
  refine takeH 0 (oi := ⟨some 108, _, _, _, _, _⟩) (v := ?_) rfl (by kernel_rfl) (by kernel_rfl) (by kernel_rfl) (fun _ _ _ h => h) (Or.inl ⟨by rfl, ?hyB1⟩) hSB ?restB1
  case hyB1 => (intro W hW; (try dsimp only at hW); go_simp; try with_reducible rfl)
  try simp only [Act.put, List.setIfInBounds_toArray, List.set_cons_zero, List.set_cons_succ]
  refine takeH 1 (oi := ⟨some 109, _, _, _, _, _⟩) (v := ?_) rfl (by kernel_rfl) (by kernel_rfl) (by kernel_rfl) (fun _ _ _ h => h) (Or.inl ⟨by rfl, ?hyB2⟩) hSB ?restB2
  case hyB2 => (intro W hW; (try dsimp only at hW); go_simp; try with_reducible rfl)
  try simp only [Act.put, List.setIfInBounds_toArray, List.set_cons_zero, List.set_cons_succ]
  refine takeH 2 (oi := ⟨some 110, _, _, _, _, _⟩) (v := ?_) rfl (by kernel_rfl) (by kernel_rfl) (by kernel_rfl) (fun _ _ _ h => h) (Or.inl ⟨by rfl, ?hyB3⟩) hSB ?restB3
  case hyB3 => (intro W hW; (try dsimp only at hW); go_simp; try with_reducible rfl)
  try simp only [Act.put, List.setIfInBounds_toArray, List.set_cons_zero, List.set_cons_succ]
  refine takeH 3 (oi := ⟨some 111, _, _, _, _, _⟩) (v := ?_) rfl (by kernel_rfl) (by kernel_rfl) (by kernel_rfl) (fun _ _ _ h => h) (Or.inl ⟨by rfl, ?hyB4⟩) hSB ?restB4
  case hyB4 => (intro W hW; (try dsimp only at hW); go_simp; try with_reducible rfl)
  try simp only [Act.put, List.setIfInBounds_toArray, List.set_cons_zero, List.set_cons_succ]
  refine takeH 4 (oi := ⟨some 112, _, _, _, _, _⟩) (v := ?_) rfl (by kernel_rfl) (by kernel_rfl) (by kernel_rfl) (fun _ _ _ h => h) (Or.inl ⟨by rfl, ?hyB5⟩) hSB ?restB5
  case hyB5 => (intro W hW; (try dsimp only at hW); go_simp; try with_reducible rfl)
  try simp only [Act.put, List.setIfInBounds_toArray, List.set_cons_zero, List.set_cons_succ]
  refine takeH 5 (oi := ⟨some 113, _, _, _, _, _⟩) (v := ?_) rfl (by kernel_rfl) (by kernel_rfl) (by kernel_rfl) (fun _ _ _ h => h) (Or.inl ⟨by rfl, ?hyB6⟩) hSB ?restB6
  case hyB6 => (intro W hW; (try dsimp only at hW); go_simp; try with_reducible rfl)
  try simp only [Act.put, List.setIfInBounds_toArray, List.set_cons_zero, List.set_cons_succ]
  refine takeH 6 (oi := ⟨some 114, _, _, _, _, _⟩) (v := ?_) rfl (by kernel_rfl) (by kernel_rfl) (by kernel_rfl) (fun _ _ _ h => h) (Or.inl ⟨by rfl, ?hyB7⟩) hSB ?restB7
  case hyB7 => (intro W hW; (try dsimp only at hW); go_simp; try with_reducible rfl)
  try simp only [Act.put, List.setIfInBounds_toArray, List.set_cons_zero, List.set_cons_succ]
  refine takeH 7 (oi := ⟨some 115, _, _, _, _, _⟩) (v := ?_) rfl (by kernel_rfl) (by kernel_rfl) (by kernel_rfl) (fun _ _ _ h => h) (Or.inl ⟨by rfl, ?hyB8⟩) hSB ?restB8
  case hyB8 => (intro W hW; (try dsimp only at hW); go_simp; try with_reducible rfl)
  try simp only [Act.put, List.setIfInBounds_toArray, List.set_cons_zero, List.set_cons_succ]
  refine takeH 8 (oi := ⟨some 116, _, _, _, _, _⟩) (v := ?_) rfl (by kernel_rfl) (by kernel_rfl) (by kernel_rfl) (fun _ _ _ h => h) (Or.inl ⟨by rfl, ?hyB9⟩) hSB ?restB9
  case hyB9 => (intro W hW; (try dsimp only at hW); go_simp; try with_reducible rfl)
  try simp only [Act.put, List.setIfInBounds_toArray, List.set_cons_zero, List.set_cons_succ]
  refine takeH 9 (oi := ⟨some 117, _, _, _, _, _⟩) (v := ?_) rfl (by kernel_rfl) (by kernel_rfl) (by kernel_rfl) (fun _ _ _ h => h) (Or.inl ⟨by rfl, ?hyB10⟩) hSB ?restB10
  case hyB10 => (intro W hW; (try dsimp only at hW); go_simp; try with_reducible rfl)
  try simp only [Act.put, List.setIfInBounds_toArray, List.set_cons_zero, List.set_cons_succ]
  refine takeH 10 (oi := ⟨some 118, _, _, _, _, _⟩) (v := ?_) rfl (by kernel_rfl) (by kernel_rfl) (by kernel_rfl) (fun _ _ _ h => h) (Or.inl ⟨by rfl, ?hyB11⟩) hSB ?restB11
  case hyB11 => (intro W hW; (try dsimp only at hW); go_simp; try with_reducible rfl)
  try simp only [Act.put, List.setIfInBounds_toArray, List.set_cons_zero, List.set_cons_succ]
  refine takeH 11 (oi := ⟨some 119, _, _, _, _, _⟩) (v := ?_) rfl (by kernel_rfl) (by kernel_rfl) (by kernel_rfl) (fun _ _ _ h => h) (Or.inl ⟨by rfl, ?hyB12⟩) hSB ?restB12
  case hyB12 => (intro W hW; (try dsimp only at hW); go_simp; try with_reducible rfl)
  try simp only [Act.put, List.setIfInBounds_toArray, List.set_cons_zero, List.set_cons_succ]
  refine takeH 12 (oi := ⟨some 120, _, _, _, _, _⟩) (v := ?_) rfl (by kernel_rfl) (by kernel_rfl) (by kernel_rfl) (fun _ _ _ h => h) (Or.inl ⟨by rfl, ?hyB13⟩) hSB ?restB13
  case hyB13 => (intro W hW; (try dsimp only at hW); go_simp; try with_reducible rfl)
  try simp only [Act.put, List.setIfInBounds_toArray, List.set_cons_zero, List.set_cons_succ]
  refine takeH 13 (oi := ⟨some 121, _, _, _, _, _⟩) (v := ?_) rfl (by kernel_rfl) (by kernel_rfl) (by kernel_rfl) (fun _ _ _ h => h) (Or.inl ⟨by rfl, ?hyB14⟩) hSB ?restB14
  case hyB14 => (intro W hW; (try dsimp only at hW); go_simp; try with_reducible rfl)
  try simp only [Act.put, List.setIfInBounds_toArray, List.set_cons_zero, List.set_cons_succ]
  refine takeH 14 (oi := ⟨some 122, _, _, _, _, _⟩) (v := ?_) rfl (by kernel_rfl) (by kernel_rfl) (by kernel_rfl) (fun _ _ _ h => h) (Or.inl ⟨by rfl, ?hyB15⟩) hSB ?restB15
  case hyB15 => (intro W hW; (try dsimp only at hW); go_simp; try with_reducible rfl)
  try simp only [Act.put, List.setIfInBounds_toArray, List.set_cons_zero, List.set_cons_succ]
  refine takeH 15 (oi := ⟨some 123, _, _, _, _, _⟩) (v := ?_) rfl (by kernel_rfl) (by kernel_rfl) (by kernel_rfl) (fun _ _ _ h => h) (Or.inl ⟨by rfl, ?hyB16⟩) hSB ?restB16
  case hyB16 => (intro W hW; (try dsimp only at hW); go_simp; try with_reducible rfl)
  try simp only [Act.put, List.setIfInBounds_toArray, List.set_cons_zero, List.set_cons_succ]
  refine takeH 16 (oi := ⟨some 124, _, _, _, _, _⟩) (v := ?_) rfl (by kernel_rfl) (by kernel_rfl) (by kernel_rfl) (fun _ _ _ h => h) (Or.inl ⟨by rfl, ?hyB17⟩) hSB ?restB17
  case hyB17 => (intro W hW; (try dsimp only at hW); go_simp; try with_reducible rfl)
  try simp only [Act.put, List.setIfInBounds_toArray, List.set_cons_zero, List.set_cons_succ]
  refine one (i := 17) (by kernel_rfl) ?_
  refine wpOp_wanted rfl (by rfl) fun K hK => ?_
  go_simp
  with_reducible refine (hStr _ _).mono ?_
  rintro e wB18 ⟨rfl, hb⟩
  have SB18 : Below w1.heap.size w1 wB18 := hSB.trans (hb.mono hSB.size)
  clear hb
  refine hK _ _ ⟨SB18, ?_⟩
  clear hK K
  try simp only [Act.put, List.setIfInBounds_toArray, List.set_cons_zero, List.set_cons_succ]
  refine takeH 18 (oi := ⟨some 126, _, _, _, _, _⟩) (v := ?_) rfl (by kernel_rfl) (by kernel_rfl) (by kernel_rfl) (fun _ _ _ h => h) (Or.inl ⟨by rfl, ?hyB19⟩) SB18 ?restB19
  case hyB19 => (intro W hW; (try dsimp only at hW); go_simp; try with_reducible rfl)
  try simp only [Act.put, List.setIfInBounds_toArray, List.set_cons_zero, List.set_cons_succ]
  refine takeH 19 (oi := ⟨some 127, _, _, _, _, _⟩) (v := ?_) rfl (by kernel_rfl) (by kernel_rfl) (by kernel_rfl) (fun _ _ _ h => h) (Or.inl ⟨by rfl, ?hyB20⟩) SB18 ?restB20
  case hyB20 => (intro W hW; (try dsimp only at hW); go_simp; try with_reducible rfl)
  try simp only [Act.put, List.setIfInBounds_toArray, List.set_cons_zero, List.set_cons_succ]
  refine takeH 20 (oi := ⟨some 128, _, _, _, _, _⟩) (v := ?_) rfl (by kernel_rfl) (by kernel_rfl) (by kernel_rfl) (fun _ _ _ h => h) (Or.inl ⟨by rfl, ?hyB21⟩) SB18 ?restB21
  case hyB21 => (intro W hW; (try dsimp only at hW); go_simp; try with_reducible rfl)
  try simp only [Act.put, List.setIfInBounds_toArray, List.set_cons_zero, List.set_cons_succ]
  refine wpAnyH_done (by kernel_rfl) ?_ _
  clear caB0 caB1 caB2
  have D13 := Lib.hid (D12.out.on SB18)
  generalize wB18 = W4 at D13 ⊢
  have u0 := (D13.out.blk _ (List.mem_cons_of_mem _ (List.mem_cons_of_mem _ (List.mem_cons_of_mem _ (List.mem_cons_of_mem _ (List.mem_cons_self)))))).2.cell 0 _ rfl; have uz0 := (D13.out.blk _ (List.mem_cons_of_mem _ (List.mem_cons_of_mem _ (List.mem_cons_of_mem _ (List.mem_cons_of_mem _ (List.mem_cons_self)))))).2.frozen 0; have u1 := (D13.out.blk _ (List.mem_cons_of_mem _ (List.mem_cons_of_mem _ (List.mem_cons_of_mem _ (List.mem_cons_of_mem _ (List.mem_cons_self)))))).2.cell 1 _ rfl; have uz1 := (D13.out.blk _ (List.mem_cons_of_mem _ (List.mem_cons_of_mem _ (List.mem_cons_of_mem _ (List.mem_cons_of_mem _ (List.mem_cons_self)))))).2.frozen 1; have u2 := (D13.out.blk _ (List.mem_cons_of_mem _ (List.mem_cons_of_mem _ (List.mem_cons_of_mem _ (List.mem_cons_of_mem _ (List.mem_cons_self)))))).2.cell 2 _ rfl; have uz2 := (D13.out.blk _ (List.mem_cons_of_mem _ (List.mem_cons_of_mem _ (List.mem_cons_of_mem _ (List.mem_cons_of_mem _ (List.mem_cons_self)))))).2.frozen 2; have ult := (D13.out).bl (List.mem_cons_of_mem _ (List.mem_cons_of_mem _ (List.mem_cons_of_mem _ (List.mem_cons_of_mem _ (List.mem_cons_self))))); have q0 := (D13.out.blk _ (List.mem_cons_of_mem _ (List.mem_cons_of_mem _ (List.mem_cons_of_mem _ (List.mem_cons_of_mem _ (List.mem_cons_of_mem _ (List.mem_cons_self))))))).2.cell 0 _ rfl; have qz0 := (D13.out.blk _ (List.mem_cons_of_mem _ (List.mem_cons_of_mem _ (List.mem_cons_of_mem _ (List.mem_cons_of_mem _ (List.mem_cons_of_mem _ (List.mem_cons_self))))))).2.frozen 0; have q1 := (D13.out.blk _ (List.mem_cons_of_mem _ (List.mem_cons_of_mem _ (List.mem_cons_of_mem _ (List.mem_cons_of_mem _ (List.mem_cons_of_mem _ (List.mem_cons_self))))))).2.cell 1 _ rfl; have qz1 := (D13.out.blk _ (List.mem_cons_of_mem _ (List.mem_cons_of_mem _ (List.mem_cons_of_mem _ (List.mem_cons_of_mem _ (List.mem_cons_of_mem _ (List.mem_cons_self))))))).2.frozen 1; have q2 := (D13.out.blk _ (List.mem_cons_of_mem _ (List.mem_cons_of_mem _ (List.mem_cons_of_mem _ (List.mem_cons_of_mem _ (List.mem_cons_of_mem _ (List.mem_cons_self))))))).2.cell 2 _ rfl; have qz2 := (D13.out.blk _ (List.mem_cons_of_mem _ (List.mem_cons_of_mem _ (List.mem_cons_of_mem _ (List.mem_cons_of_mem _ (List.mem_cons_of_mem _ (List.mem_cons_self))))))).2.frozen 2; have qlt := (D13.out).bl (List.mem_cons_of_mem _ (List.mem_cons_of_mem _ (List.mem_cons_of_mem _ (List.mem_cons_of_mem _ (List.mem_cons_of_mem _ (List.mem_cons_self))))))
  go_upto_region 19 with (first | (go_at_call 46; go_loud (with_reducible refine (E4.out _ (T0.out.on (D13.out).bel)).mono ?_; rintro e wn14 ⟨rfl, hb⟩; have D14 := Lib.hid ((D13.out).on hb); clear hb)) | (go_at_call 55; go_loud (with_reducible refine (hStr _ _).mono ?_; rintro e wn15 ⟨rfl, hb⟩; have D15 := Lib.hid ((D14.out.new 32 [.int .i64 3, .int .i64 0, .string ⟨#[]⟩]).on hb); clear hb)) | (go_at_call 56; go_loud (with_reducible refine (ON.out _ (T0.out.on (D15.out).bel)).mono ?_; rintro e wn16 ⟨rfl, hb⟩; have D16 := Lib.hid ((D15.out).on hb); clear hb)))
  have D17 := Lib.hid (D16.out.new 32 [.int .i64 2, .int .i64 0, .string ⟨#[]⟩])
  obtain ⟨w5, hw5⟩ : ∃ z, z = wn16.alloc (.cells #[.int .i64 2, .int .i64 0, .string ⟨#[]⟩] 32) := ⟨_, rfl⟩
  obtain ⟨x24, hx24⟩ : ∃ z, z = wn16.heap.size := ⟨_, rfl⟩
  rw [← hw5] at D17
  rw [← hx24] at D17
  simp only [← hw5, ← hx24]
  clear hw5 hx24
  have hBE : Below w5.heap.size w5 ({ w5 with drawn := w5.drawn + 1 } : World) := ⟨rfl, rfl, rfl, Nat.le_refl _, fun _ _ => rfl⟩
  refine wp_region_held (S := Below w5.heap.size w5) (by kernel_rfl) ?_
  have hSE := hBE
  generalize ({ w5 with drawn := w5.drawn + 1 } : World) = wE at hSE hBE ⊢
  have hleE := D17.out.bel.size
  have hslE := hSE.size
  have naE0 : ∀ W, Below w5.heap.size w5 W → W.cell? ⟨x24, 0, none⟩ = some (.int .i64 2) := fun W hW => ((D17.out.on hW).blk _ (List.mem_cons_self)).2.cell 0 _ rfl
  have naE1 : ∀ W, Below w5.heap.size w5 W → W.cell? ⟨x24, 1, none⟩ = some (.int .i64 0) := fun W hW => ((D17.out.on hW).blk _ (List.mem_cons_self)).2.cell 1 _ rfl
  have naE2 : ∀ W, Below w5.heap.size w5 W → W.cell? ⟨x24, 2, none⟩ = some (.string ⟨#[]⟩) := fun W hW => ((D17.out.on hW).blk _ (List.mem_cons_self)).2.cell 2 _ rfl
  refine takeH 0 (oi := ⟨some 147, _, _, _, _, _⟩) (v := ?_) rfl (by kernel_rfl) (by kernel_rfl) (by kernel_rfl) (fun _ _ _ h => h) (Or.inl ⟨by rfl, ?hyE22⟩) hSE ?restE22
  case hyE22 => (intro W hW; (try dsimp only at hW); go_simp; try with_reducible rfl)
  try simp only [Act.put, List.setIfInBounds_toArray, List.set_cons_zero, List.set_cons_succ]
  refine takeH 1 (oi := ⟨some 148, _, _, _, _, _⟩) (v := ?_) rfl (by kernel_rfl) (by kernel_rfl) (by kernel_rfl) (fun _ _ _ h => h) (Or.inl ⟨by rfl, ?hyE23⟩) hSE ?restE23
  case hyE23 => (intro W hW; (try dsimp only at hW); go_simp; try with_reducible rfl)
  try simp only [Act.put, List.setIfInBounds_toArray, List.set_cons_zero, List.set_cons_succ]
  refine takeH 2 (oi := ⟨some 149, _, _, _, _, _⟩) (v := ?_) rfl (by kernel_rfl) (by kernel_rfl) (by kernel_rfl) (fun _ _ _ h => h) (Or.inl ⟨by rfl, ?hyE24⟩) hSE ?restE24
  case hyE24 => (intro W hW; (try dsimp only at hW); go_simp; try with_reducible rfl)
  try simp only [Act.put, List.setIfInBounds_toArray, List.set_cons_zero, List.set_cons_succ]
  refine takeH 3 (oi := ⟨some 150, _, _, _, _, _⟩) (v := ?_) rfl (by kernel_rfl) (by kernel_rfl) (by kernel_rfl) (fun _ _ _ h => h) (Or.inl ⟨by rfl, ?hyE25⟩) hSE ?restE25
  case hyE25 => (intro W hW; (try dsimp only at hW); go_simp; try with_reducible rfl)
  try simp only [Act.put, List.setIfInBounds_toArray, List.set_cons_zero, List.set_cons_succ]
  refine takeH 4 (oi := ⟨some 151, _, _, _, _, _⟩) (v := ?_) rfl (by kernel_rfl) (by kernel_rfl) (by kernel_rfl) (fun _ _ _ h => h) (Or.inl ⟨by rfl, ?hyE26⟩) hSE ?restE26
  case hyE26 => (intro W hW; (try dsimp only at hW); go_simp; try with_reducible rfl)
  try simp only [Act.put, List.setIfInBounds_toArray, List.set_cons_zero, List.set_cons_succ]
  refine takeH 5 (oi := ⟨some 152, _, _, _, _, _⟩) (v := ?_) rfl (by kernel_rfl) (by kernel_rfl) (by kernel_rfl) (fun _ _ _ h => h) (Or.inl ⟨by rfl, ?hyE27⟩) hSE ?restE27
  case hyE27 => (intro W hW; (try dsimp only at hW); go_simp; try with_reducible rfl)
  try simp only [Act.put, List.setIfInBounds_toArray, List.set_cons_zero, List.set_cons_succ]
  refine takeH 6 (oi := ⟨some 153, _, _, _, _, _⟩) (v := ?_) rfl (by kernel_rfl) (by kernel_rfl) (by kernel_rfl) (fun _ _ _ h => h) (Or.inl ⟨by rfl, ?hyE28⟩) hSE ?restE28
  case hyE28 => (intro W hW; (try dsimp only at hW); go_simp; try with_reducible rfl)
  try simp only [Act.put, List.setIfInBounds_toArray, List.set_cons_zero, List.set_cons_succ]
  refine takeH 7 (oi := ⟨some 154, _, _, _, _, _⟩) (v := ?_) rfl (by kernel_rfl) (by kernel_rfl) (by kernel_rfl) (fun _ _ _ h => h) (Or.inl ⟨by rfl, ?hyE29⟩) hSE ?restE29
  case hyE29 => (intro W hW; (try dsimp only at hW); go_simp; try with_reducible rfl)
  try simp only [Act.put, List.setIfInBounds_toArray, List.set_cons_zero, List.set_cons_succ]
  refine takeH 8 (oi := ⟨some 155, _, _, _, _, _⟩) (v := ?_) rfl (by kernel_rfl) (by kernel_rfl) (by kernel_rfl) (fun _ _ _ h => h) (Or.inl ⟨by rfl, ?hyE30⟩) hSE ?restE30
  case hyE30 => (intro W hW; (try dsimp only at hW); go_simp; try with_reducible rfl)
  try simp only [Act.put, List.setIfInBounds_toArray, List.set_cons_zero, List.set_cons_succ]
  refine takeH 9 (oi := ⟨some 156, _, _, _, _, _⟩) (v := ?_) rfl (by kernel_rfl) (by kernel_rfl) (by kernel_rfl) (fun _ _ _ h => h) (Or.inl ⟨by rfl, ?hyE31⟩) hSE ?restE31
  case hyE31 => (intro W hW; (try dsimp only at hW); go_simp; try with_reducible rfl)
  try simp only [Act.put, List.setIfInBounds_toArray, List.set_cons_zero, List.set_cons_succ]
  refine takeH 10 (oi := ⟨some 157, _, _, _, _, _⟩) (v := ?_) rfl (by kernel_rfl) (by kernel_rfl) (by kernel_rfl) (fun _ _ _ h => h) (Or.inl ⟨by rfl, ?hyE32⟩) hSE ?restE32
  case hyE32 => (intro W hW; (try dsimp only at hW); go_simp; try with_reducible rfl)
  try simp only [Act.put, List.setIfInBounds_toArray, List.set_cons_zero, List.set_cons_succ]
  refine takeH 11 (oi := ⟨some 158, _, _, _, _, _⟩) (v := ?_) rfl (by kernel_rfl) (by kernel_rfl) (by kernel_rfl) (fun _ _ _ h => h) (Or.inl ⟨by rfl, ?hyE33⟩) hSE ?restE33
  case hyE33 => (intro W hW; (try dsimp only at hW); go_simp; try with_reducible rfl)
  try simp only [Act.put, List.setIfInBounds_toArray, List.set_cons_zero, List.set_cons_succ]
  refine takeH 12 (oi := ⟨some 159, _, _, _, _, _⟩) (v := ?_) rfl (by kernel_rfl) (by kernel_rfl) (by kernel_rfl) (fun _ _ _ h => h) (Or.inl ⟨by rfl, ?hyE34⟩) hSE ?restE34
  case hyE34 => (intro W hW; (try dsimp only at hW); go_simp; try with_reducible rfl)
  try simp only [Act.put, List.setIfInBounds_toArray, List.set_cons_zero, List.set_cons_succ]
  refine takeH 13 (oi := ⟨some 160, _, _, _, _, _⟩) (v := ?_) rfl (by kernel_rfl) (by kernel_rfl) (by kernel_rfl) (fun _ _ _ h => h) (Or.inl ⟨by rfl, ?hyE35⟩) hSE ?restE35
  case hyE35 => (intro W hW; (try dsimp only at hW); go_simp; try with_reducible rfl)
  try simp only [Act.put, List.setIfInBounds_toArray, List.set_cons_zero, List.set_cons_succ]
  refine takeH 14 (oi := ⟨some 161, _, _, _, _, _⟩) (v := undef) rfl (by kernel_rfl) (by kernel_rfl) (by kernel_rfl) (fun _ _ _ h => h) (Or.inr ⟨by rfl, rfl⟩) hSE ?restE36
  try simp only [Act.put, List.setIfInBounds_toArray, List.set_cons_zero, List.set_cons_succ]
  refine takeH 15 (oi := ⟨some 162, _, _, _, _, _⟩) (v := undef) rfl (by kernel_rfl) (by kernel_rfl) (by kernel_rfl) (fun _ _ _ h => h) (Or.inr ⟨by rfl, rfl⟩) hSE ?restE37
  try simp only [Act.put, List.setIfInBounds_toArray, List.set_cons_zero, List.set_cons_succ]
  refine takeH 16 (oi := ⟨some 163, _, _, _, _, _⟩) (v := ?_) rfl (by kernel_rfl) (by kernel_rfl) (by kernel_rfl) (fun _ _ _ h => h) (Or.inl ⟨by rfl, ?hyE38⟩) hSE ?restE38
  case hyE38 => (intro W hW; (try dsimp only at hW); go_simp; try with_reducible rfl)
  try simp only [Act.put, List.setIfInBounds_toArray, List.set_cons_zero, List.set_cons_succ]
  refine takeH 17 (oi := ⟨some 164, _, _, _, _, _⟩) (v := ?_) rfl (by kernel_rfl) (by kernel_rfl) (by kernel_rfl) (fun _ _ _ h => h) (Or.inl ⟨by rfl, ?hyE39⟩) hSE ?restE39
  case hyE39 => (intro W hW; (try dsimp only at hW); go_simp; try with_reducible rfl)
  try simp only [Act.put, List.setIfInBounds_toArray, List.set_cons_zero, List.set_cons_succ]
  refine takeH 18 (oi := ⟨some 165, _, _, _, _, _⟩) (v := ?_) rfl (by kernel_rfl) (by kernel_rfl) (by kernel_rfl) (fun _ _ _ h => h) (Or.inl ⟨by rfl, ?hyE40⟩) hSE ?restE40
  case hyE40 => (intro W hW; (try dsimp only at hW); go_simp; try with_reducible rfl)
  try simp only [Act.put, List.setIfInBounds_toArray, List.set_cons_zero, List.set_cons_succ]
  refine takeH 19 (oi := ⟨some 166, _, _, _, _, _⟩) (v := ?_) rfl (by kernel_rfl) (by kernel_rfl) (by kernel_rfl) (fun _ _ _ h => h) (Or.inl ⟨by rfl, ?hyE41⟩) hSE ?restE41
  case hyE41 => (intro W hW; (try dsimp only at hW); go_simp; try with_reducible rfl)
  try simp only [Act.put, List.setIfInBounds_toArray, List.set_cons_zero, List.set_cons_succ]
  refine takeH 20 (oi := ⟨some 167, _, _, _, _, _⟩) (v := ?_) rfl (by kernel_rfl) (by kernel_rfl) (by kernel_rfl) (fun _ _ _ h => h) (Or.inl ⟨by rfl, ?hyE42⟩) hSE ?restE42
  case hyE42 => (intro W hW; (try dsimp only at hW); go_simp; try with_reducible rfl)
  try simp only [Act.put, List.setIfInBounds_toArray, List.set_cons_zero, List.set_cons_succ]
  refine takeH 21 (oi := ⟨some 168, _, _, _, _, _⟩) (v := ?_) rfl (by kernel_rfl) (by kernel_rfl) (by kernel_rfl) (fun _ _ _ h => h) (Or.inl ⟨by rfl, ?hyE43⟩) hSE ?restE43
  case hyE43 => (intro W hW; (try dsimp only at hW); go_simp; try with_reducible rfl)
  try simp only [Act.put, List.setIfInBounds_toArray, List.set_cons_zero, List.set_cons_succ]
  refine takeH 22 (oi := ⟨some 169, _, _, _, _, _⟩) (v := ?_) rfl (by kernel_rfl) (by kernel_rfl) (by kernel_rfl) (fun _ _ _ h => h) (Or.inl ⟨by rfl, ?hyE44⟩) hSE ?restE44
  case hyE44 => (intro W hW; (try dsimp only at hW); go_simp; try with_reducible rfl)
  try simp only [Act.put, List.setIfInBounds_toArray, List.set_cons_zero, List.set_cons_succ]
  refine takeH 23 (oi := ⟨some 170, _, _, _, _, _⟩) (v := ?_) rfl (by kernel_rfl) (by kernel_rfl) (by kernel_rfl) (fun _ _ _ h => h) (Or.inl ⟨by rfl, ?hyE45⟩) hSE ?restE45
  case hyE45 => (intro W hW; (try dsimp only at hW); go_simp; try with_reducible rfl)
  try simp only [Act.put, List.setIfInBounds_toArray, List.set_cons_zero, List.set_cons_succ]
  refine takeH 24 (oi := ⟨some 171, _, _, _, _, _⟩) (v := ?_) rfl (by kernel_rfl) (by kernel_rfl) (by kernel_rfl) (fun _ _ _ h => h) (Or.inl ⟨by rfl, ?hyE46⟩) hSE ?restE46
  case hyE46 => (intro W hW; (try dsimp only at hW); go_simp; try with_reducible rfl)
  try simp only [Act.put, List.setIfInBounds_toArray, List.set_cons_zero, List.set_cons_succ]
  refine one (i := 25) (by kernel_rfl) ?_
  refine wpOp_wanted rfl (by rfl) fun K hK => ?_
  go_simp
  with_reducible refine (hInt _ _).mono ?_
  rintro e wE47 ⟨rfl, hb⟩
  have SE47 : Below w5.heap.size w5 wE47 := hSE.trans (hb.mono hSE.size)
  clear hb
  refine hK _ _ ⟨SE47, ?_⟩
  clear hK K
  try simp only [Act.put, List.setIfInBounds_toArray, List.set_cons_zero, List.set_cons_succ]
  refine takeH 26 (oi := ⟨some 173, _, _, _, _, _⟩) (v := ?_) rfl (by kernel_rfl) (by kernel_rfl) (by kernel_rfl) (fun _ _ _ h => h) (Or.inl ⟨by rfl, ?hyE48⟩) SE47 ?restE48
  case hyE48 => (intro W hW; (try dsimp only at hW); go_simp; try with_reducible rfl)
  try simp only [Act.put, List.setIfInBounds_toArray, List.set_cons_zero, List.set_cons_succ]
  refine takeH 27 (oi := ⟨some 174, _, _, _, _, _⟩) (v := ?_) rfl (by kernel_rfl) (by kernel_rfl) (by kernel_rfl) (fun _ _ _ h => h) (Or.inl ⟨by rfl, ?hyE49⟩) SE47 ?restE49
  case hyE49 => (intro W hW; (try dsimp only at hW); go_simp; try with_reducible rfl)
  try simp only [Act.put, List.setIfInBounds_toArray, List.set_cons_zero, List.set_cons_succ]
  refine takeH 28 (oi := ⟨some 6, _, _, _, _, _⟩) (v := ?_) rfl (by kernel_rfl) (by kernel_rfl) (by kernel_rfl) (fun _ _ _ h => h) (Or.inl ⟨by rfl, ?hyE50⟩) SE47 ?restE50
  case hyE50 => (intro W hW; (try dsimp only at hW); go_simp; try with_reducible rfl)
  try simp only [Act.put, List.setIfInBounds_toArray, List.set_cons_zero, List.set_cons_succ]
  refine wpAnyH_done (by kernel_rfl) ?_ _
  clear naE0 naE1 naE2
  go_wp2_with fail
  go_ret
  exact ⟨rfl, (D17.out.on SE47).bel⟩
set_option maxHeartbeats 16000000 in
set_option maxRecDepth 20000 in
theorem nu12 (m op : Int) (k0 n0 : Int) (s0 : ByteArray) (k1 n1 : Int) (s1 : ByteArray) (x y : Int) (S T : ByteArray) (v1 v2 : Int) (v3 : ByteArray) (v4 : Int) (hg : ∀ b W, Blk W b 32 [.int .i64 k0, .int .i64 n0, .string s0, .int .i64 k1, .int .i64 n1, .string s1] → Calls Tryd.prog 44 #[.slice (some ⟨b, 0, none⟩) 2 2] W fun e w' => e = .returned (.bool false) ∧ Below W.heap.size W w') (hop : wrap64 (1 + (wrap64 m).tmod 10) = op) (hx : numberF k0 n0 s0 = some (x, true)) (hy : numberF k1 n1 s1 = some (y, true)) (d1 : doF op k0 n0 s0 k1 n1 s1 0 = some (v1, v2, v3, v4)) (d2 : doF op 2 x ⟨#[]⟩ 2 y ⟨#[]⟩ 0 = some (v1, v2, v3, v4)) (hs : stringF k0 n0 s0 = some (S, true)) (ht : stringF k1 n1 s1 = some (T, true)) (d3 : doF 11 k0 n0 s0 k1 n1 s1 ((S.size : Int) + (T.size : Int)) = some (3, 0, (S ++ T), 0)) (d4 : doF 11 k0 n0 s0 k1 n1 s1 ((S.size : Int) + (T.size : Int) - 1) = some (0, 0, ⟨#[]⟩, 3)) (o1 : oneF 23 3 0 S = some (2, (S.size : Int), ⟨#[]⟩, 0)) (hw1 : IntKind.i64.wrap ((S.size : Int) + (T.size : Int)) = (S.size : Int) + (T.size : Int)) (hw2 : IntKind.i64.wrap ((S.size : Int) + (T.size : Int) - 1) = (S.size : Int) + (T.size : Int) - 1) (hv1 : wrap64 ((S.size : Int) + (T.size : Int)) = (S.size : Int) + (T.size : Int)) (hv2 : wrap64 ((S.size : Int) + (T.size : Int) - 1) = (S.size : Int) + (T.size : Int) - 1) (hz2 : (9223372036854775807 < S.size + T.size) = False) (hz : ((S.size : Int) + (T.size : Int) = 0) = False) (hzb : ((S.size : Int) + (T.size : Int) == 0) = false) (w : World) (hT : Tab w) : Calls Tryd.prog 10 #[.int .u8 m, .agg #[.int .i64 k0, .int .i64 n0, .string s0], .agg #[.int .i64 k1, .int .i64 n1, .string s1]] w fun e w' => e = .returned (.bool true) ∧ Below w.heap.size w w' := by
  have T0 := Lib.hid hT
  have D0 := Lib.hid (OD.start2 w 32 [.int .i64 k0, .int .i64 n0, .string s0] [.int .i64 k1, .int .i64 n1, .string s1])
  have AL := Lib.hid (fun W hW => alive_calls true W hW rfl)
  have GR := Lib.hid hg
  have NX := Lib.hid (fun W hW => number_calls k0 n0 s0 x true W hW hx)
  have NY := Lib.hid (fun W hW => number_calls k1 n1 s1 y true W hW hy)
  have E1 := Lib.hid (fun W hW => do_calls op k0 n0 s0 k1 n1 s1 0 (v1) (v2) (v3) (v4) W hW d1)
  have E2 := Lib.hid (fun W hW => do_calls op 2 x ⟨#[]⟩ 2 y ⟨#[]⟩ 0 (v1) (v2) (v3) (v4) W hW d2)
  have SX := Lib.hid (fun W hW => string_calls k0 n0 s0 S true W hW hs)
  have SY := Lib.hid (fun W hW => string_calls k1 n1 s1 T true W hW ht)
  have E3 := Lib.hid (fun W hW => do_calls 11 k0 n0 s0 k1 n1 s1 ((S.size : Int) + (T.size : Int)) (3) (0) ((S ++ T)) (0) W hW d3)
  have E4 := Lib.hid (fun W hW => do_calls 11 k0 n0 s0 k1 n1 s1 ((S.size : Int) + (T.size : Int) - 1) (0) (0) (⟨#[]⟩) (3) W hW d4)
  have ON := Lib.hid (fun W hW => one_calls 23 3 0 S 2 (S.size : Int) ⟨#[]⟩ 0 W hW o1)
  clear hT hg hx hy d1 d2 hs ht d3 d4 o1
  go_enter Tryd.func10, Tryd.ntmps10
  go_upto_region 15 with (first | (go_at_call 43; go_loud (with_reducible refine (AL.out _ (T0.out.on D0.out.bel)).mono ?_; rintro e wn1 ⟨rfl, hb⟩; have D1 := Lib.hid ((D0.out).on hb); clear hb; have u0 := (D1.out.blk _ (List.mem_cons_self)).2.cell 0 _ rfl; have uz0 := (D1.out.blk _ (List.mem_cons_self)).2.frozen 0; have u1 := (D1.out.blk _ (List.mem_cons_self)).2.cell 1 _ rfl; have uz1 := (D1.out.blk _ (List.mem_cons_self)).2.frozen 1; have u2 := (D1.out.blk _ (List.mem_cons_self)).2.cell 2 _ rfl; have uz2 := (D1.out.blk _ (List.mem_cons_self)).2.frozen 2; have ult := (D1.out).bl (List.mem_cons_self); have q0 := (D1.out.blk _ (List.mem_cons_of_mem _ (List.mem_cons_self))).2.cell 0 _ rfl; have qz0 := (D1.out.blk _ (List.mem_cons_of_mem _ (List.mem_cons_self))).2.frozen 0; have q1 := (D1.out.blk _ (List.mem_cons_of_mem _ (List.mem_cons_self))).2.cell 1 _ rfl; have qz1 := (D1.out.blk _ (List.mem_cons_of_mem _ (List.mem_cons_self))).2.frozen 1; have q2 := (D1.out.blk _ (List.mem_cons_of_mem _ (List.mem_cons_self))).2.cell 2 _ rfl; have qz2 := (D1.out.blk _ (List.mem_cons_of_mem _ (List.mem_cons_self))).2.frozen 2; have qlt := (D1.out).bl (List.mem_cons_of_mem _ (List.mem_cons_self)))) | (go_at_call 44; go_loud (with_reducible refine (GR.out _ _ (Blk.new _ [.int .i64 k0, .int .i64 n0, .string s0, .int .i64 k1, .int .i64 n1, .string s1] 32)).mono ?_; rintro e wn2 ⟨rfl, hb⟩; have D2 := Lib.hid ((D1.out.new 32 [.int .i64 k0, .int .i64 n0, .string s0, .int .i64 k1, .int .i64 n1, .string s1]).on hb); clear hb; have u0 := (D2.out.blk _ (List.mem_cons_of_mem _ (List.mem_cons_self))).2.cell 0 _ rfl; have uz0 := (D2.out.blk _ (List.mem_cons_of_mem _ (List.mem_cons_self))).2.frozen 0; have u1 := (D2.out.blk _ (List.mem_cons_of_mem _ (List.mem_cons_self))).2.cell 1 _ rfl; have uz1 := (D2.out.blk _ (List.mem_cons_of_mem _ (List.mem_cons_self))).2.frozen 1; have u2 := (D2.out.blk _ (List.mem_cons_of_mem _ (List.mem_cons_self))).2.cell 2 _ rfl; have uz2 := (D2.out.blk _ (List.mem_cons_of_mem _ (List.mem_cons_self))).2.frozen 2; have ult := (D2.out).bl (List.mem_cons_of_mem _ (List.mem_cons_self)); have q0 := (D2.out.blk _ (List.mem_cons_of_mem _ (List.mem_cons_of_mem _ (List.mem_cons_self)))).2.cell 0 _ rfl; have qz0 := (D2.out.blk _ (List.mem_cons_of_mem _ (List.mem_cons_of_mem _ (List.mem_cons_self)))).2.frozen 0; have q1 := (D2.out.blk _ (List.mem_cons_of_mem _ (List.mem_cons_of_mem _ (List.mem_cons_self)))).2.cell 1 _ rfl; have qz1 := (D2.out.blk _ (List.mem_cons_of_mem _ (List.mem_cons_of_mem _ (List.mem_cons_self)))).2.frozen 1; have q2 := (D2.out.blk _ (List.mem_cons_of_mem _ (List.mem_cons_of_mem _ (List.mem_cons_self)))).2.cell 2 _ rfl; have qz2 := (D2.out.blk _ (List.mem_cons_of_mem _ (List.mem_cons_of_mem _ (List.mem_cons_self)))).2.frozen 2; have qlt := (D2.out).bl (List.mem_cons_of_mem _ (List.mem_cons_of_mem _ (List.mem_cons_self))))) | (go_at_call 52; go_loud (with_reducible refine (NX.out _ (T0.out.on (D2.out).bel)).mono ?_; rintro e wn3 ⟨rfl, hb⟩; have D3 := Lib.hid ((D2.out).on hb); clear hb; have u0 := (D3.out.blk _ (List.mem_cons_of_mem _ (List.mem_cons_self))).2.cell 0 _ rfl; have uz0 := (D3.out.blk _ (List.mem_cons_of_mem _ (List.mem_cons_self))).2.frozen 0; have u1 := (D3.out.blk _ (List.mem_cons_of_mem _ (List.mem_cons_self))).2.cell 1 _ rfl; have uz1 := (D3.out.blk _ (List.mem_cons_of_mem _ (List.mem_cons_self))).2.frozen 1; have u2 := (D3.out.blk _ (List.mem_cons_of_mem _ (List.mem_cons_self))).2.cell 2 _ rfl; have uz2 := (D3.out.blk _ (List.mem_cons_of_mem _ (List.mem_cons_self))).2.frozen 2; have ult := (D3.out).bl (List.mem_cons_of_mem _ (List.mem_cons_self)); have q0 := (D3.out.blk _ (List.mem_cons_of_mem _ (List.mem_cons_of_mem _ (List.mem_cons_self)))).2.cell 0 _ rfl; have qz0 := (D3.out.blk _ (List.mem_cons_of_mem _ (List.mem_cons_of_mem _ (List.mem_cons_self)))).2.frozen 0; have q1 := (D3.out.blk _ (List.mem_cons_of_mem _ (List.mem_cons_of_mem _ (List.mem_cons_self)))).2.cell 1 _ rfl; have qz1 := (D3.out.blk _ (List.mem_cons_of_mem _ (List.mem_cons_of_mem _ (List.mem_cons_self)))).2.frozen 1; have q2 := (D3.out.blk _ (List.mem_cons_of_mem _ (List.mem_cons_of_mem _ (List.mem_cons_self)))).2.cell 2 _ rfl; have qz2 := (D3.out.blk _ (List.mem_cons_of_mem _ (List.mem_cons_of_mem _ (List.mem_cons_self)))).2.frozen 2; have qlt := (D3.out).bl (List.mem_cons_of_mem _ (List.mem_cons_of_mem _ (List.mem_cons_self))))) | (go_at_call 52; go_loud (with_reducible refine (NY.out _ (T0.out.on (D3.out).bel)).mono ?_; rintro e wn4 ⟨rfl, hb⟩; have D4 := Lib.hid ((D3.out).on hb); clear hb; have u0 := (D4.out.blk _ (List.mem_cons_of_mem _ (List.mem_cons_self))).2.cell 0 _ rfl; have uz0 := (D4.out.blk _ (List.mem_cons_of_mem _ (List.mem_cons_self))).2.frozen 0; have u1 := (D4.out.blk _ (List.mem_cons_of_mem _ (List.mem_cons_self))).2.cell 1 _ rfl; have uz1 := (D4.out.blk _ (List.mem_cons_of_mem _ (List.mem_cons_self))).2.frozen 1; have u2 := (D4.out.blk _ (List.mem_cons_of_mem _ (List.mem_cons_self))).2.cell 2 _ rfl; have uz2 := (D4.out.blk _ (List.mem_cons_of_mem _ (List.mem_cons_self))).2.frozen 2; have ult := (D4.out).bl (List.mem_cons_of_mem _ (List.mem_cons_self)); have q0 := (D4.out.blk _ (List.mem_cons_of_mem _ (List.mem_cons_of_mem _ (List.mem_cons_self)))).2.cell 0 _ rfl; have qz0 := (D4.out.blk _ (List.mem_cons_of_mem _ (List.mem_cons_of_mem _ (List.mem_cons_self)))).2.frozen 0; have q1 := (D4.out.blk _ (List.mem_cons_of_mem _ (List.mem_cons_of_mem _ (List.mem_cons_self)))).2.cell 1 _ rfl; have qz1 := (D4.out.blk _ (List.mem_cons_of_mem _ (List.mem_cons_of_mem _ (List.mem_cons_self)))).2.frozen 1; have q2 := (D4.out.blk _ (List.mem_cons_of_mem _ (List.mem_cons_of_mem _ (List.mem_cons_self)))).2.cell 2 _ rfl; have qz2 := (D4.out.blk _ (List.mem_cons_of_mem _ (List.mem_cons_of_mem _ (List.mem_cons_self)))).2.frozen 2; have qlt := (D4.out).bl (List.mem_cons_of_mem _ (List.mem_cons_of_mem _ (List.mem_cons_self))))) | (go_at_call 46; go_loud (with_reducible refine (E1.out _ (T0.out.on (D4.out).bel)).mono ?_; rintro e wn5 ⟨rfl, hb⟩; have D5 := Lib.hid ((D4.out).on hb); clear hb)) | (go_at_call 53; go_loud (with_reducible refine (hInt x _).mono ?_; rintro e wn6 ⟨rfl, hb⟩; have D6 := Lib.hid ((D5.out.new 32 [.int .i64 v1, .int .i64 v2, .string v3]).on hb); clear hb)) | (go_at_call 53; go_loud (with_reducible refine (hInt y _).mono ?_; rintro e wn7 ⟨rfl, hb⟩; have D7 := Lib.hid ((D6.out).on hb); clear hb)) | (go_at_call 46; go_loud (with_reducible refine (E2.out _ (T0.out.on (D7.out).bel)).mono ?_; rintro e wn8 ⟨rfl, hb⟩; have D8 := Lib.hid ((D7.out).on hb); clear hb; have r0 := (D8.out.blk _ (List.mem_cons_self)).2.cell 0 _ rfl; have rz0 := (D8.out.blk _ (List.mem_cons_self)).2.frozen 0; have r1 := (D8.out.blk _ (List.mem_cons_self)).2.cell 1 _ rfl; have rz1 := (D8.out.blk _ (List.mem_cons_self)).2.frozen 1; have r2 := (D8.out.blk _ (List.mem_cons_self)).2.cell 2 _ rfl; have rz2 := (D8.out.blk _ (List.mem_cons_self)).2.frozen 2; have rlt := (D8.out).bl (List.mem_cons_self); have u0 := (D8.out.blk _ (List.mem_cons_of_mem _ (List.mem_cons_of_mem _ (List.mem_cons_self)))).2.cell 0 _ rfl; have uz0 := (D8.out.blk _ (List.mem_cons_of_mem _ (List.mem_cons_of_mem _ (List.mem_cons_self)))).2.frozen 0; have u1 := (D8.out.blk _ (List.mem_cons_of_mem _ (List.mem_cons_of_mem _ (List.mem_cons_self)))).2.cell 1 _ rfl; have uz1 := (D8.out.blk _ (List.mem_cons_of_mem _ (List.mem_cons_of_mem _ (List.mem_cons_self)))).2.frozen 1; have u2 := (D8.out.blk _ (List.mem_cons_of_mem _ (List.mem_cons_of_mem _ (List.mem_cons_self)))).2.cell 2 _ rfl; have uz2 := (D8.out.blk _ (List.mem_cons_of_mem _ (List.mem_cons_of_mem _ (List.mem_cons_self)))).2.frozen 2; have ult := (D8.out).bl (List.mem_cons_of_mem _ (List.mem_cons_of_mem _ (List.mem_cons_self))); have q0 := (D8.out.blk _ (List.mem_cons_of_mem _ (List.mem_cons_of_mem _ (List.mem_cons_of_mem _ (List.mem_cons_self))))).2.cell 0 _ rfl; have qz0 := (D8.out.blk _ (List.mem_cons_of_mem _ (List.mem_cons_of_mem _ (List.mem_cons_of_mem _ (List.mem_cons_self))))).2.frozen 0; have q1 := (D8.out.blk _ (List.mem_cons_of_mem _ (List.mem_cons_of_mem _ (List.mem_cons_of_mem _ (List.mem_cons_self))))).2.cell 1 _ rfl; have qz1 := (D8.out.blk _ (List.mem_cons_of_mem _ (List.mem_cons_of_mem _ (List.mem_cons_of_mem _ (List.mem_cons_self))))).2.frozen 1; have q2 := (D8.out.blk _ (List.mem_cons_of_mem _ (List.mem_cons_of_mem _ (List.mem_cons_of_mem _ (List.mem_cons_self))))).2.cell 2 _ rfl; have qz2 := (D8.out.blk _ (List.mem_cons_of_mem _ (List.mem_cons_of_mem _ (List.mem_cons_of_mem _ (List.mem_cons_self))))).2.frozen 2; have qlt := (D8.out).bl (List.mem_cons_of_mem _ (List.mem_cons_of_mem _ (List.mem_cons_of_mem _ (List.mem_cons_self)))))) | (go_at_call 54; go_loud (with_reducible refine (SX.out _ (T0.out.on (D8.out.new 32 [.int .i64 v1, .int .i64 v2, .string v3]).bel)).mono ?_; rintro e wn9 ⟨rfl, hb⟩; have D9 := Lib.hid ((D8.out.new 32 [.int .i64 v1, .int .i64 v2, .string v3]).on hb); clear hb; have u0 := (D9.out.blk _ (List.mem_cons_of_mem _ (List.mem_cons_of_mem _ (List.mem_cons_of_mem _ (List.mem_cons_self))))).2.cell 0 _ rfl; have uz0 := (D9.out.blk _ (List.mem_cons_of_mem _ (List.mem_cons_of_mem _ (List.mem_cons_of_mem _ (List.mem_cons_self))))).2.frozen 0; have u1 := (D9.out.blk _ (List.mem_cons_of_mem _ (List.mem_cons_of_mem _ (List.mem_cons_of_mem _ (List.mem_cons_self))))).2.cell 1 _ rfl; have uz1 := (D9.out.blk _ (List.mem_cons_of_mem _ (List.mem_cons_of_mem _ (List.mem_cons_of_mem _ (List.mem_cons_self))))).2.frozen 1; have u2 := (D9.out.blk _ (List.mem_cons_of_mem _ (List.mem_cons_of_mem _ (List.mem_cons_of_mem _ (List.mem_cons_self))))).2.cell 2 _ rfl; have uz2 := (D9.out.blk _ (List.mem_cons_of_mem _ (List.mem_cons_of_mem _ (List.mem_cons_of_mem _ (List.mem_cons_self))))).2.frozen 2; have ult := (D9.out).bl (List.mem_cons_of_mem _ (List.mem_cons_of_mem _ (List.mem_cons_of_mem _ (List.mem_cons_self)))); have q0 := (D9.out.blk _ (List.mem_cons_of_mem _ (List.mem_cons_of_mem _ (List.mem_cons_of_mem _ (List.mem_cons_of_mem _ (List.mem_cons_self)))))).2.cell 0 _ rfl; have qz0 := (D9.out.blk _ (List.mem_cons_of_mem _ (List.mem_cons_of_mem _ (List.mem_cons_of_mem _ (List.mem_cons_of_mem _ (List.mem_cons_self)))))).2.frozen 0; have q1 := (D9.out.blk _ (List.mem_cons_of_mem _ (List.mem_cons_of_mem _ (List.mem_cons_of_mem _ (List.mem_cons_of_mem _ (List.mem_cons_self)))))).2.cell 1 _ rfl; have qz1 := (D9.out.blk _ (List.mem_cons_of_mem _ (List.mem_cons_of_mem _ (List.mem_cons_of_mem _ (List.mem_cons_of_mem _ (List.mem_cons_self)))))).2.frozen 1; have q2 := (D9.out.blk _ (List.mem_cons_of_mem _ (List.mem_cons_of_mem _ (List.mem_cons_of_mem _ (List.mem_cons_of_mem _ (List.mem_cons_self)))))).2.cell 2 _ rfl; have qz2 := (D9.out.blk _ (List.mem_cons_of_mem _ (List.mem_cons_of_mem _ (List.mem_cons_of_mem _ (List.mem_cons_of_mem _ (List.mem_cons_self)))))).2.frozen 2; have qlt := (D9.out).bl (List.mem_cons_of_mem _ (List.mem_cons_of_mem _ (List.mem_cons_of_mem _ (List.mem_cons_of_mem _ (List.mem_cons_self))))))) | (go_at_call 54; go_loud (with_reducible refine (SY.out _ (T0.out.on (D9.out).bel)).mono ?_; rintro e wn10 ⟨rfl, hb⟩; have D10 := Lib.hid ((D9.out).on hb); clear hb; have u0 := (D10.out.blk _ (List.mem_cons_of_mem _ (List.mem_cons_of_mem _ (List.mem_cons_of_mem _ (List.mem_cons_self))))).2.cell 0 _ rfl; have uz0 := (D10.out.blk _ (List.mem_cons_of_mem _ (List.mem_cons_of_mem _ (List.mem_cons_of_mem _ (List.mem_cons_self))))).2.frozen 0; have u1 := (D10.out.blk _ (List.mem_cons_of_mem _ (List.mem_cons_of_mem _ (List.mem_cons_of_mem _ (List.mem_cons_self))))).2.cell 1 _ rfl; have uz1 := (D10.out.blk _ (List.mem_cons_of_mem _ (List.mem_cons_of_mem _ (List.mem_cons_of_mem _ (List.mem_cons_self))))).2.frozen 1; have u2 := (D10.out.blk _ (List.mem_cons_of_mem _ (List.mem_cons_of_mem _ (List.mem_cons_of_mem _ (List.mem_cons_self))))).2.cell 2 _ rfl; have uz2 := (D10.out.blk _ (List.mem_cons_of_mem _ (List.mem_cons_of_mem _ (List.mem_cons_of_mem _ (List.mem_cons_self))))).2.frozen 2; have ult := (D10.out).bl (List.mem_cons_of_mem _ (List.mem_cons_of_mem _ (List.mem_cons_of_mem _ (List.mem_cons_self)))); have q0 := (D10.out.blk _ (List.mem_cons_of_mem _ (List.mem_cons_of_mem _ (List.mem_cons_of_mem _ (List.mem_cons_of_mem _ (List.mem_cons_self)))))).2.cell 0 _ rfl; have qz0 := (D10.out.blk _ (List.mem_cons_of_mem _ (List.mem_cons_of_mem _ (List.mem_cons_of_mem _ (List.mem_cons_of_mem _ (List.mem_cons_self)))))).2.frozen 0; have q1 := (D10.out.blk _ (List.mem_cons_of_mem _ (List.mem_cons_of_mem _ (List.mem_cons_of_mem _ (List.mem_cons_of_mem _ (List.mem_cons_self)))))).2.cell 1 _ rfl; have qz1 := (D10.out.blk _ (List.mem_cons_of_mem _ (List.mem_cons_of_mem _ (List.mem_cons_of_mem _ (List.mem_cons_of_mem _ (List.mem_cons_self)))))).2.frozen 1; have q2 := (D10.out.blk _ (List.mem_cons_of_mem _ (List.mem_cons_of_mem _ (List.mem_cons_of_mem _ (List.mem_cons_of_mem _ (List.mem_cons_self)))))).2.cell 2 _ rfl; have qz2 := (D10.out.blk _ (List.mem_cons_of_mem _ (List.mem_cons_of_mem _ (List.mem_cons_of_mem _ (List.mem_cons_of_mem _ (List.mem_cons_self)))))).2.frozen 2; have qlt := (D10.out).bl (List.mem_cons_of_mem _ (List.mem_cons_of_mem _ (List.mem_cons_of_mem _ (List.mem_cons_of_mem _ (List.mem_cons_self))))))) | (go_at_call 46; go_loud (with_reducible refine (E3.out _ (T0.out.on (D10.out).bel)).mono ?_; rintro e wn11 ⟨rfl, hb⟩; have D11 := Lib.hid ((D10.out).on hb); clear hb)))
  have hu := Tryd.underlying32
  have D12 := Lib.hid (D11.out.new 32 [.int .i64 3, .int .i64 0, .string (S ++ T)])
  obtain ⟨w1, hw1⟩ : ∃ z, z = wn11.alloc (.cells #[.int .i64 3, .int .i64 0, .string (S ++ T)] 32) := ⟨_, rfl⟩
  obtain ⟨x20, hx20⟩ : ∃ z, z = wn11.heap.size := ⟨_, rfl⟩
  rw [← hw1] at D12
  rw [← hx20] at D12
  simp only [← hw1, ← hx20]
  clear hw1 hx20
  have hBB : Below w1.heap.size w1 ({ w1 with drawn := w1.drawn + 1 } : World) := ⟨rfl, rfl, rfl, Nat.le_refl _, fun _ _ => rfl⟩
  refine wp_region_held (S := Below w1.heap.size w1) (by kernel_rfl) ?_
  have hSB := hBB
  generalize ({ w1 with drawn := w1.drawn + 1 } : World) = wB at hSB hBB ⊢
  have hleB := D12.out.bel.size
  have hslB := hSB.size
  have caB0 : ∀ W, Below w1.heap.size w1 W → W.cell? ⟨x20, 0, none⟩ = some (.int .i64 3) := fun W hW => ((D12.out.on hW).blk _ (List.mem_cons_self)).2.cell 0 _ rfl
  have caB1 : ∀ W, Below w1.heap.size w1 W → W.cell? ⟨x20, 1, none⟩ = some (.int .i64 0) := fun W hW => ((D12.out.on hW).blk _ (List.mem_cons_self)).2.cell 1 _ rfl
  have caB2 : ∀ W, Below w1.heap.size w1 W → W.cell? ⟨x20, 2, none⟩ = some (.string (S ++ T)) := fun W hW => ((D12.out.on hW).blk _ (List.mem_cons_self)).2.cell 2 _ rfl
  refine takeH 0 (oi := ⟨some 108, _, _, _, _, _⟩) (v := ?_) rfl (by kernel_rfl) (by kernel_rfl) (by kernel_rfl) (fun _ _ _ h => h) (Or.inl ⟨by rfl, ?hyB51⟩) hSB ?restB51
  case hyB51 => (intro W hW; (try dsimp only at hW); go_simp; try with_reducible rfl)
  try simp only [Act.put, List.setIfInBounds_toArray, List.set_cons_zero, List.set_cons_succ]
  refine takeH 1 (oi := ⟨some 109, _, _, _, _, _⟩) (v := ?_) rfl (by kernel_rfl) (by kernel_rfl) (by kernel_rfl) (fun _ _ _ h => h) (Or.inl ⟨by rfl, ?hyB52⟩) hSB ?restB52
  case hyB52 => (intro W hW; (try dsimp only at hW); go_simp; try with_reducible rfl)
  try simp only [Act.put, List.setIfInBounds_toArray, List.set_cons_zero, List.set_cons_succ]
  refine takeH 2 (oi := ⟨some 110, _, _, _, _, _⟩) (v := ?_) rfl (by kernel_rfl) (by kernel_rfl) (by kernel_rfl) (fun _ _ _ h => h) (Or.inl ⟨by rfl, ?hyB53⟩) hSB ?restB53
  case hyB53 => (intro W hW; (try dsimp only at hW); go_simp; try with_reducible rfl)
  try simp only [Act.put, List.setIfInBounds_toArray, List.set_cons_zero, List.set_cons_succ]
  refine takeH 3 (oi := ⟨some 111, _, _, _, _, _⟩) (v := ?_) rfl (by kernel_rfl) (by kernel_rfl) (by kernel_rfl) (fun _ _ _ h => h) (Or.inl ⟨by rfl, ?hyB54⟩) hSB ?restB54
  case hyB54 => (intro W hW; (try dsimp only at hW); go_simp; try with_reducible rfl)
  try simp only [Act.put, List.setIfInBounds_toArray, List.set_cons_zero, List.set_cons_succ]
  refine takeH 4 (oi := ⟨some 112, _, _, _, _, _⟩) (v := ?_) rfl (by kernel_rfl) (by kernel_rfl) (by kernel_rfl) (fun _ _ _ h => h) (Or.inl ⟨by rfl, ?hyB55⟩) hSB ?restB55
  case hyB55 => (intro W hW; (try dsimp only at hW); go_simp; try with_reducible rfl)
  try simp only [Act.put, List.setIfInBounds_toArray, List.set_cons_zero, List.set_cons_succ]
  refine takeH 5 (oi := ⟨some 113, _, _, _, _, _⟩) (v := ?_) rfl (by kernel_rfl) (by kernel_rfl) (by kernel_rfl) (fun _ _ _ h => h) (Or.inl ⟨by rfl, ?hyB56⟩) hSB ?restB56
  case hyB56 => (intro W hW; (try dsimp only at hW); go_simp; try with_reducible rfl)
  try simp only [Act.put, List.setIfInBounds_toArray, List.set_cons_zero, List.set_cons_succ]
  refine takeH 6 (oi := ⟨some 114, _, _, _, _, _⟩) (v := ?_) rfl (by kernel_rfl) (by kernel_rfl) (by kernel_rfl) (fun _ _ _ h => h) (Or.inl ⟨by rfl, ?hyB57⟩) hSB ?restB57
  case hyB57 => (intro W hW; (try dsimp only at hW); go_simp; try with_reducible rfl)
  try simp only [Act.put, List.setIfInBounds_toArray, List.set_cons_zero, List.set_cons_succ]
  refine takeH 7 (oi := ⟨some 115, _, _, _, _, _⟩) (v := ?_) rfl (by kernel_rfl) (by kernel_rfl) (by kernel_rfl) (fun _ _ _ h => h) (Or.inl ⟨by rfl, ?hyB58⟩) hSB ?restB58
  case hyB58 => (intro W hW; (try dsimp only at hW); go_simp; try with_reducible rfl)
  try simp only [Act.put, List.setIfInBounds_toArray, List.set_cons_zero, List.set_cons_succ]
  refine takeH 8 (oi := ⟨some 116, _, _, _, _, _⟩) (v := ?_) rfl (by kernel_rfl) (by kernel_rfl) (by kernel_rfl) (fun _ _ _ h => h) (Or.inl ⟨by rfl, ?hyB59⟩) hSB ?restB59
  case hyB59 => (intro W hW; (try dsimp only at hW); go_simp; try with_reducible rfl)
  try simp only [Act.put, List.setIfInBounds_toArray, List.set_cons_zero, List.set_cons_succ]
  refine takeH 9 (oi := ⟨some 117, _, _, _, _, _⟩) (v := ?_) rfl (by kernel_rfl) (by kernel_rfl) (by kernel_rfl) (fun _ _ _ h => h) (Or.inl ⟨by rfl, ?hyB60⟩) hSB ?restB60
  case hyB60 => (intro W hW; (try dsimp only at hW); go_simp; try with_reducible rfl)
  try simp only [Act.put, List.setIfInBounds_toArray, List.set_cons_zero, List.set_cons_succ]
  refine takeH 10 (oi := ⟨some 118, _, _, _, _, _⟩) (v := ?_) rfl (by kernel_rfl) (by kernel_rfl) (by kernel_rfl) (fun _ _ _ h => h) (Or.inl ⟨by rfl, ?hyB61⟩) hSB ?restB61
  case hyB61 => (intro W hW; (try dsimp only at hW); go_simp; try with_reducible rfl)
  try simp only [Act.put, List.setIfInBounds_toArray, List.set_cons_zero, List.set_cons_succ]
  refine takeH 11 (oi := ⟨some 119, _, _, _, _, _⟩) (v := ?_) rfl (by kernel_rfl) (by kernel_rfl) (by kernel_rfl) (fun _ _ _ h => h) (Or.inl ⟨by rfl, ?hyB62⟩) hSB ?restB62
  case hyB62 => (intro W hW; (try dsimp only at hW); go_simp; try with_reducible rfl)
  try simp only [Act.put, List.setIfInBounds_toArray, List.set_cons_zero, List.set_cons_succ]
  refine takeH 12 (oi := ⟨some 120, _, _, _, _, _⟩) (v := ?_) rfl (by kernel_rfl) (by kernel_rfl) (by kernel_rfl) (fun _ _ _ h => h) (Or.inl ⟨by rfl, ?hyB63⟩) hSB ?restB63
  case hyB63 => (intro W hW; (try dsimp only at hW); go_simp; try with_reducible rfl)
  try simp only [Act.put, List.setIfInBounds_toArray, List.set_cons_zero, List.set_cons_succ]
  refine takeH 13 (oi := ⟨some 121, _, _, _, _, _⟩) (v := ?_) rfl (by kernel_rfl) (by kernel_rfl) (by kernel_rfl) (fun _ _ _ h => h) (Or.inl ⟨by rfl, ?hyB64⟩) hSB ?restB64
  case hyB64 => (intro W hW; (try dsimp only at hW); go_simp; try with_reducible rfl)
  try simp only [Act.put, List.setIfInBounds_toArray, List.set_cons_zero, List.set_cons_succ]
  refine takeH 14 (oi := ⟨some 122, _, _, _, _, _⟩) (v := ?_) rfl (by kernel_rfl) (by kernel_rfl) (by kernel_rfl) (fun _ _ _ h => h) (Or.inl ⟨by rfl, ?hyB65⟩) hSB ?restB65
  case hyB65 => (intro W hW; (try dsimp only at hW); go_simp; try with_reducible rfl)
  try simp only [Act.put, List.setIfInBounds_toArray, List.set_cons_zero, List.set_cons_succ]
  refine takeH 15 (oi := ⟨some 123, _, _, _, _, _⟩) (v := ?_) rfl (by kernel_rfl) (by kernel_rfl) (by kernel_rfl) (fun _ _ _ h => h) (Or.inl ⟨by rfl, ?hyB66⟩) hSB ?restB66
  case hyB66 => (intro W hW; (try dsimp only at hW); go_simp; try with_reducible rfl)
  try simp only [Act.put, List.setIfInBounds_toArray, List.set_cons_zero, List.set_cons_succ]
  refine takeH 16 (oi := ⟨some 124, _, _, _, _, _⟩) (v := ?_) rfl (by kernel_rfl) (by kernel_rfl) (by kernel_rfl) (fun _ _ _ h => h) (Or.inl ⟨by rfl, ?hyB67⟩) hSB ?restB67
  case hyB67 => (intro W hW; (try dsimp only at hW); go_simp; try with_reducible rfl)
  try simp only [Act.put, List.setIfInBounds_toArray, List.set_cons_zero, List.set_cons_succ]
  refine one (i := 17) (by kernel_rfl) ?_
  refine wpOp_wanted rfl (by rfl) fun K hK => ?_
  go_simp
  with_reducible refine (hStr _ _).mono ?_
  rintro e wB68 ⟨rfl, hb⟩
  have SB68 : Below w1.heap.size w1 wB68 := hSB.trans (hb.mono hSB.size)
  clear hb
  refine hK _ _ ⟨SB68, ?_⟩
  clear hK K
  try simp only [Act.put, List.setIfInBounds_toArray, List.set_cons_zero, List.set_cons_succ]
  refine takeH 18 (oi := ⟨some 126, _, _, _, _, _⟩) (v := ?_) rfl (by kernel_rfl) (by kernel_rfl) (by kernel_rfl) (fun _ _ _ h => h) (Or.inl ⟨by rfl, ?hyB69⟩) SB68 ?restB69
  case hyB69 => (intro W hW; (try dsimp only at hW); go_simp; try with_reducible rfl)
  try simp only [Act.put, List.setIfInBounds_toArray, List.set_cons_zero, List.set_cons_succ]
  refine takeH 19 (oi := ⟨some 127, _, _, _, _, _⟩) (v := ?_) rfl (by kernel_rfl) (by kernel_rfl) (by kernel_rfl) (fun _ _ _ h => h) (Or.inl ⟨by rfl, ?hyB70⟩) SB68 ?restB70
  case hyB70 => (intro W hW; (try dsimp only at hW); go_simp; try with_reducible rfl)
  try simp only [Act.put, List.setIfInBounds_toArray, List.set_cons_zero, List.set_cons_succ]
  refine takeH 20 (oi := ⟨some 128, _, _, _, _, _⟩) (v := ?_) rfl (by kernel_rfl) (by kernel_rfl) (by kernel_rfl) (fun _ _ _ h => h) (Or.inl ⟨by rfl, ?hyB71⟩) SB68 ?restB71
  case hyB71 => (intro W hW; (try dsimp only at hW); go_simp; try with_reducible rfl)
  try simp only [Act.put, List.setIfInBounds_toArray, List.set_cons_zero, List.set_cons_succ]
  refine wpAnyH_done (by kernel_rfl) ?_ _
  clear caB0 caB1 caB2
  have D13 := Lib.hid (D12.out.on SB68)
  generalize wB68 = W4 at D13 ⊢
  have u0 := (D13.out.blk _ (List.mem_cons_of_mem _ (List.mem_cons_of_mem _ (List.mem_cons_of_mem _ (List.mem_cons_of_mem _ (List.mem_cons_self)))))).2.cell 0 _ rfl; have uz0 := (D13.out.blk _ (List.mem_cons_of_mem _ (List.mem_cons_of_mem _ (List.mem_cons_of_mem _ (List.mem_cons_of_mem _ (List.mem_cons_self)))))).2.frozen 0; have u1 := (D13.out.blk _ (List.mem_cons_of_mem _ (List.mem_cons_of_mem _ (List.mem_cons_of_mem _ (List.mem_cons_of_mem _ (List.mem_cons_self)))))).2.cell 1 _ rfl; have uz1 := (D13.out.blk _ (List.mem_cons_of_mem _ (List.mem_cons_of_mem _ (List.mem_cons_of_mem _ (List.mem_cons_of_mem _ (List.mem_cons_self)))))).2.frozen 1; have u2 := (D13.out.blk _ (List.mem_cons_of_mem _ (List.mem_cons_of_mem _ (List.mem_cons_of_mem _ (List.mem_cons_of_mem _ (List.mem_cons_self)))))).2.cell 2 _ rfl; have uz2 := (D13.out.blk _ (List.mem_cons_of_mem _ (List.mem_cons_of_mem _ (List.mem_cons_of_mem _ (List.mem_cons_of_mem _ (List.mem_cons_self)))))).2.frozen 2; have ult := (D13.out).bl (List.mem_cons_of_mem _ (List.mem_cons_of_mem _ (List.mem_cons_of_mem _ (List.mem_cons_of_mem _ (List.mem_cons_self))))); have q0 := (D13.out.blk _ (List.mem_cons_of_mem _ (List.mem_cons_of_mem _ (List.mem_cons_of_mem _ (List.mem_cons_of_mem _ (List.mem_cons_of_mem _ (List.mem_cons_self))))))).2.cell 0 _ rfl; have qz0 := (D13.out.blk _ (List.mem_cons_of_mem _ (List.mem_cons_of_mem _ (List.mem_cons_of_mem _ (List.mem_cons_of_mem _ (List.mem_cons_of_mem _ (List.mem_cons_self))))))).2.frozen 0; have q1 := (D13.out.blk _ (List.mem_cons_of_mem _ (List.mem_cons_of_mem _ (List.mem_cons_of_mem _ (List.mem_cons_of_mem _ (List.mem_cons_of_mem _ (List.mem_cons_self))))))).2.cell 1 _ rfl; have qz1 := (D13.out.blk _ (List.mem_cons_of_mem _ (List.mem_cons_of_mem _ (List.mem_cons_of_mem _ (List.mem_cons_of_mem _ (List.mem_cons_of_mem _ (List.mem_cons_self))))))).2.frozen 1; have q2 := (D13.out.blk _ (List.mem_cons_of_mem _ (List.mem_cons_of_mem _ (List.mem_cons_of_mem _ (List.mem_cons_of_mem _ (List.mem_cons_of_mem _ (List.mem_cons_self))))))).2.cell 2 _ rfl; have qz2 := (D13.out.blk _ (List.mem_cons_of_mem _ (List.mem_cons_of_mem _ (List.mem_cons_of_mem _ (List.mem_cons_of_mem _ (List.mem_cons_of_mem _ (List.mem_cons_self))))))).2.frozen 2; have qlt := (D13.out).bl (List.mem_cons_of_mem _ (List.mem_cons_of_mem _ (List.mem_cons_of_mem _ (List.mem_cons_of_mem _ (List.mem_cons_of_mem _ (List.mem_cons_self))))))
  go_upto_region 19 with (first | (go_at_call 46; go_loud (with_reducible refine (E4.out _ (T0.out.on (D13.out).bel)).mono ?_; rintro e wn14 ⟨rfl, hb⟩; have D14 := Lib.hid ((D13.out).on hb); clear hb)) | (go_at_call 55; go_loud (with_reducible refine (hStr _ _).mono ?_; rintro e wn15 ⟨rfl, hb⟩; have D15 := Lib.hid ((D14.out.new 32 [.int .i64 0, .int .i64 0, .string ⟨#[]⟩]).on hb); clear hb)) | (go_at_call 56; go_loud (with_reducible refine (ON.out _ (T0.out.on (D15.out).bel)).mono ?_; rintro e wn16 ⟨rfl, hb⟩; have D16 := Lib.hid ((D15.out).on hb); clear hb)))
  have D17 := Lib.hid (D16.out.new 32 [.int .i64 2, .int .i64 (S.size : Int), .string ⟨#[]⟩])
  obtain ⟨w5, hw5⟩ : ∃ z, z = wn16.alloc (.cells #[.int .i64 2, .int .i64 (S.size : Int), .string ⟨#[]⟩] 32) := ⟨_, rfl⟩
  obtain ⟨x24, hx24⟩ : ∃ z, z = wn16.heap.size := ⟨_, rfl⟩
  rw [← hw5] at D17
  rw [← hx24] at D17
  simp only [← hw5, ← hx24]
  clear hw5 hx24
  have hBE : Below w5.heap.size w5 ({ w5 with drawn := w5.drawn + 1 } : World) := ⟨rfl, rfl, rfl, Nat.le_refl _, fun _ _ => rfl⟩
  refine wp_region_held (S := Below w5.heap.size w5) (by kernel_rfl) ?_
  have hSE := hBE
  generalize ({ w5 with drawn := w5.drawn + 1 } : World) = wE at hSE hBE ⊢
  have hleE := D17.out.bel.size
  have hslE := hSE.size
  have naE0 : ∀ W, Below w5.heap.size w5 W → W.cell? ⟨x24, 0, none⟩ = some (.int .i64 2) := fun W hW => ((D17.out.on hW).blk _ (List.mem_cons_self)).2.cell 0 _ rfl
  have naE1 : ∀ W, Below w5.heap.size w5 W → W.cell? ⟨x24, 1, none⟩ = some (.int .i64 (S.size : Int)) := fun W hW => ((D17.out.on hW).blk _ (List.mem_cons_self)).2.cell 1 _ rfl
  have naE2 : ∀ W, Below w5.heap.size w5 W → W.cell? ⟨x24, 2, none⟩ = some (.string ⟨#[]⟩) := fun W hW => ((D17.out.on hW).blk _ (List.mem_cons_self)).2.cell 2 _ rfl
  refine takeH 0 (oi := ⟨some 147, _, _, _, _, _⟩) (v := ?_) rfl (by kernel_rfl) (by kernel_rfl) (by kernel_rfl) (fun _ _ _ h => h) (Or.inl ⟨by rfl, ?hyE72⟩) hSE ?restE72
  case hyE72 => (intro W hW; (try dsimp only at hW); go_simp; try with_reducible rfl)
  try simp only [Act.put, List.setIfInBounds_toArray, List.set_cons_zero, List.set_cons_succ]
  refine takeH 1 (oi := ⟨some 148, _, _, _, _, _⟩) (v := ?_) rfl (by kernel_rfl) (by kernel_rfl) (by kernel_rfl) (fun _ _ _ h => h) (Or.inl ⟨by rfl, ?hyE73⟩) hSE ?restE73
  case hyE73 => (intro W hW; (try dsimp only at hW); go_simp; try with_reducible rfl)
  try simp only [Act.put, List.setIfInBounds_toArray, List.set_cons_zero, List.set_cons_succ]
  refine takeH 2 (oi := ⟨some 149, _, _, _, _, _⟩) (v := ?_) rfl (by kernel_rfl) (by kernel_rfl) (by kernel_rfl) (fun _ _ _ h => h) (Or.inl ⟨by rfl, ?hyE74⟩) hSE ?restE74
  case hyE74 => (intro W hW; (try dsimp only at hW); go_simp; try with_reducible rfl)
  try simp only [Act.put, List.setIfInBounds_toArray, List.set_cons_zero, List.set_cons_succ]
  refine takeH 3 (oi := ⟨some 150, _, _, _, _, _⟩) (v := ?_) rfl (by kernel_rfl) (by kernel_rfl) (by kernel_rfl) (fun _ _ _ h => h) (Or.inl ⟨by rfl, ?hyE75⟩) hSE ?restE75
  case hyE75 => (intro W hW; (try dsimp only at hW); go_simp; try with_reducible rfl)
  try simp only [Act.put, List.setIfInBounds_toArray, List.set_cons_zero, List.set_cons_succ]
  refine takeH 4 (oi := ⟨some 151, _, _, _, _, _⟩) (v := ?_) rfl (by kernel_rfl) (by kernel_rfl) (by kernel_rfl) (fun _ _ _ h => h) (Or.inl ⟨by rfl, ?hyE76⟩) hSE ?restE76
  case hyE76 => (intro W hW; (try dsimp only at hW); go_simp; try with_reducible rfl)
  try simp only [Act.put, List.setIfInBounds_toArray, List.set_cons_zero, List.set_cons_succ]
  refine takeH 5 (oi := ⟨some 152, _, _, _, _, _⟩) (v := ?_) rfl (by kernel_rfl) (by kernel_rfl) (by kernel_rfl) (fun _ _ _ h => h) (Or.inl ⟨by rfl, ?hyE77⟩) hSE ?restE77
  case hyE77 => (intro W hW; (try dsimp only at hW); go_simp; try with_reducible rfl)
  try simp only [Act.put, List.setIfInBounds_toArray, List.set_cons_zero, List.set_cons_succ]
  refine takeH 6 (oi := ⟨some 153, _, _, _, _, _⟩) (v := ?_) rfl (by kernel_rfl) (by kernel_rfl) (by kernel_rfl) (fun _ _ _ h => h) (Or.inl ⟨by rfl, ?hyE78⟩) hSE ?restE78
  case hyE78 => (intro W hW; (try dsimp only at hW); go_simp; try with_reducible rfl)
  try simp only [Act.put, List.setIfInBounds_toArray, List.set_cons_zero, List.set_cons_succ]
  refine takeH 7 (oi := ⟨some 154, _, _, _, _, _⟩) (v := ?_) rfl (by kernel_rfl) (by kernel_rfl) (by kernel_rfl) (fun _ _ _ h => h) (Or.inl ⟨by rfl, ?hyE79⟩) hSE ?restE79
  case hyE79 => (intro W hW; (try dsimp only at hW); go_simp; try with_reducible rfl)
  try simp only [Act.put, List.setIfInBounds_toArray, List.set_cons_zero, List.set_cons_succ]
  refine takeH 8 (oi := ⟨some 155, _, _, _, _, _⟩) (v := ?_) rfl (by kernel_rfl) (by kernel_rfl) (by kernel_rfl) (fun _ _ _ h => h) (Or.inl ⟨by rfl, ?hyE80⟩) hSE ?restE80
  case hyE80 => (intro W hW; (try dsimp only at hW); go_simp; try with_reducible rfl)
  try simp only [Act.put, List.setIfInBounds_toArray, List.set_cons_zero, List.set_cons_succ]
  refine takeH 9 (oi := ⟨some 156, _, _, _, _, _⟩) (v := ?_) rfl (by kernel_rfl) (by kernel_rfl) (by kernel_rfl) (fun _ _ _ h => h) (Or.inl ⟨by rfl, ?hyE81⟩) hSE ?restE81
  case hyE81 => (intro W hW; (try dsimp only at hW); go_simp; try with_reducible rfl)
  try simp only [Act.put, List.setIfInBounds_toArray, List.set_cons_zero, List.set_cons_succ]
  refine takeH 10 (oi := ⟨some 157, _, _, _, _, _⟩) (v := ?_) rfl (by kernel_rfl) (by kernel_rfl) (by kernel_rfl) (fun _ _ _ h => h) (Or.inl ⟨by rfl, ?hyE82⟩) hSE ?restE82
  case hyE82 => (intro W hW; (try dsimp only at hW); go_simp; try with_reducible rfl)
  try simp only [Act.put, List.setIfInBounds_toArray, List.set_cons_zero, List.set_cons_succ]
  refine takeH 11 (oi := ⟨some 158, _, _, _, _, _⟩) (v := ?_) rfl (by kernel_rfl) (by kernel_rfl) (by kernel_rfl) (fun _ _ _ h => h) (Or.inl ⟨by rfl, ?hyE83⟩) hSE ?restE83
  case hyE83 => (intro W hW; (try dsimp only at hW); go_simp; try with_reducible rfl)
  try simp only [Act.put, List.setIfInBounds_toArray, List.set_cons_zero, List.set_cons_succ]
  refine takeH 12 (oi := ⟨some 159, _, _, _, _, _⟩) (v := ?_) rfl (by kernel_rfl) (by kernel_rfl) (by kernel_rfl) (fun _ _ _ h => h) (Or.inl ⟨by rfl, ?hyE84⟩) hSE ?restE84
  case hyE84 => (intro W hW; (try dsimp only at hW); go_simp; try with_reducible rfl)
  try simp only [Act.put, List.setIfInBounds_toArray, List.set_cons_zero, List.set_cons_succ]
  refine takeH 13 (oi := ⟨some 160, _, _, _, _, _⟩) (v := ?_) rfl (by kernel_rfl) (by kernel_rfl) (by kernel_rfl) (fun _ _ _ h => h) (Or.inl ⟨by rfl, ?hyE85⟩) hSE ?restE85
  case hyE85 => (intro W hW; (try dsimp only at hW); go_simp; try with_reducible rfl)
  try simp only [Act.put, List.setIfInBounds_toArray, List.set_cons_zero, List.set_cons_succ]
  refine takeH 14 (oi := ⟨some 161, _, _, _, _, _⟩) (v := ?_) rfl (by kernel_rfl) (by kernel_rfl) (by kernel_rfl) (fun _ _ _ h => h) (Or.inl ⟨by rfl, ?hyE86⟩) hSE ?restE86
  case hyE86 => (intro W hW; (try dsimp only at hW); go_simp; try with_reducible rfl)
  try simp only [Act.put, List.setIfInBounds_toArray, List.set_cons_zero, List.set_cons_succ]
  refine takeH 15 (oi := ⟨some 162, _, _, _, _, _⟩) (v := ?_) rfl (by kernel_rfl) (by kernel_rfl) (by kernel_rfl) (fun _ _ _ h => h) (Or.inl ⟨by rfl, ?hyE87⟩) hSE ?restE87
  case hyE87 => (intro W hW; (try dsimp only at hW); go_simp; try with_reducible rfl)
  try simp only [Act.put, List.setIfInBounds_toArray, List.set_cons_zero, List.set_cons_succ]
  refine takeH 16 (oi := ⟨some 163, _, _, _, _, _⟩) (v := ?_) rfl (by kernel_rfl) (by kernel_rfl) (by kernel_rfl) (fun _ _ _ h => h) (Or.inl ⟨by rfl, ?hyE88⟩) hSE ?restE88
  case hyE88 => (intro W hW; (try dsimp only at hW); go_simp; try with_reducible rfl)
  try simp only [Act.put, List.setIfInBounds_toArray, List.set_cons_zero, List.set_cons_succ]
  refine takeH 17 (oi := ⟨some 164, _, _, _, _, _⟩) (v := ?_) rfl (by kernel_rfl) (by kernel_rfl) (by kernel_rfl) (fun _ _ _ h => h) (Or.inl ⟨by rfl, ?hyE89⟩) hSE ?restE89
  case hyE89 => (intro W hW; (try dsimp only at hW); go_simp; try with_reducible rfl)
  try simp only [Act.put, List.setIfInBounds_toArray, List.set_cons_zero, List.set_cons_succ]
  refine takeH 18 (oi := ⟨some 165, _, _, _, _, _⟩) (v := ?_) rfl (by kernel_rfl) (by kernel_rfl) (by kernel_rfl) (fun _ _ _ h => h) (Or.inl ⟨by rfl, ?hyE90⟩) hSE ?restE90
  case hyE90 => (intro W hW; (try dsimp only at hW); go_simp; try with_reducible rfl)
  try simp only [Act.put, List.setIfInBounds_toArray, List.set_cons_zero, List.set_cons_succ]
  refine takeH 19 (oi := ⟨some 166, _, _, _, _, _⟩) (v := ?_) rfl (by kernel_rfl) (by kernel_rfl) (by kernel_rfl) (fun _ _ _ h => h) (Or.inl ⟨by rfl, ?hyE91⟩) hSE ?restE91
  case hyE91 => (intro W hW; (try dsimp only at hW); go_simp; try with_reducible rfl)
  try simp only [Act.put, List.setIfInBounds_toArray, List.set_cons_zero, List.set_cons_succ]
  refine takeH 20 (oi := ⟨some 167, _, _, _, _, _⟩) (v := ?_) rfl (by kernel_rfl) (by kernel_rfl) (by kernel_rfl) (fun _ _ _ h => h) (Or.inl ⟨by rfl, ?hyE92⟩) hSE ?restE92
  case hyE92 => (intro W hW; (try dsimp only at hW); go_simp; try with_reducible rfl)
  try simp only [Act.put, List.setIfInBounds_toArray, List.set_cons_zero, List.set_cons_succ]
  refine takeH 21 (oi := ⟨some 168, _, _, _, _, _⟩) (v := ?_) rfl (by kernel_rfl) (by kernel_rfl) (by kernel_rfl) (fun _ _ _ h => h) (Or.inl ⟨by rfl, ?hyE93⟩) hSE ?restE93
  case hyE93 => (intro W hW; (try dsimp only at hW); go_simp; try with_reducible rfl)
  try simp only [Act.put, List.setIfInBounds_toArray, List.set_cons_zero, List.set_cons_succ]
  refine takeH 22 (oi := ⟨some 169, _, _, _, _, _⟩) (v := ?_) rfl (by kernel_rfl) (by kernel_rfl) (by kernel_rfl) (fun _ _ _ h => h) (Or.inl ⟨by rfl, ?hyE94⟩) hSE ?restE94
  case hyE94 => (intro W hW; (try dsimp only at hW); go_simp; try with_reducible rfl)
  try simp only [Act.put, List.setIfInBounds_toArray, List.set_cons_zero, List.set_cons_succ]
  refine takeH 23 (oi := ⟨some 170, _, _, _, _, _⟩) (v := ?_) rfl (by kernel_rfl) (by kernel_rfl) (by kernel_rfl) (fun _ _ _ h => h) (Or.inl ⟨by rfl, ?hyE95⟩) hSE ?restE95
  case hyE95 => (intro W hW; (try dsimp only at hW); go_simp; try with_reducible rfl)
  try simp only [Act.put, List.setIfInBounds_toArray, List.set_cons_zero, List.set_cons_succ]
  refine takeH 24 (oi := ⟨some 171, _, _, _, _, _⟩) (v := ?_) rfl (by kernel_rfl) (by kernel_rfl) (by kernel_rfl) (fun _ _ _ h => h) (Or.inl ⟨by rfl, ?hyE96⟩) hSE ?restE96
  case hyE96 => (intro W hW; (try dsimp only at hW); go_simp; try with_reducible rfl)
  try simp only [Act.put, List.setIfInBounds_toArray, List.set_cons_zero, List.set_cons_succ]
  refine one (i := 25) (by kernel_rfl) ?_
  refine wpOp_wanted rfl (by rfl) fun K hK => ?_
  go_simp
  with_reducible refine (hInt _ _).mono ?_
  rintro e wE97 ⟨rfl, hb⟩
  have SE97 : Below w5.heap.size w5 wE97 := hSE.trans (hb.mono hSE.size)
  clear hb
  refine hK _ _ ⟨SE97, ?_⟩
  clear hK K
  try simp only [Act.put, List.setIfInBounds_toArray, List.set_cons_zero, List.set_cons_succ]
  refine takeH 26 (oi := ⟨some 173, _, _, _, _, _⟩) (v := ?_) rfl (by kernel_rfl) (by kernel_rfl) (by kernel_rfl) (fun _ _ _ h => h) (Or.inl ⟨by rfl, ?hyE98⟩) SE97 ?restE98
  case hyE98 => (intro W hW; (try dsimp only at hW); go_simp; try with_reducible rfl)
  try simp only [Act.put, List.setIfInBounds_toArray, List.set_cons_zero, List.set_cons_succ]
  refine takeH 27 (oi := ⟨some 174, _, _, _, _, _⟩) (v := ?_) rfl (by kernel_rfl) (by kernel_rfl) (by kernel_rfl) (fun _ _ _ h => h) (Or.inl ⟨by rfl, ?hyE99⟩) SE97 ?restE99
  case hyE99 => (intro W hW; (try dsimp only at hW); go_simp; try with_reducible rfl)
  try simp only [Act.put, List.setIfInBounds_toArray, List.set_cons_zero, List.set_cons_succ]
  refine takeH 28 (oi := ⟨some 6, _, _, _, _, _⟩) (v := ?_) rfl (by kernel_rfl) (by kernel_rfl) (by kernel_rfl) (fun _ _ _ h => h) (Or.inl ⟨by rfl, ?hyE100⟩) SE97 ?restE100
  case hyE100 => (intro W hW; (try dsimp only at hW); go_simp; try with_reducible rfl)
  try simp only [Act.put, List.setIfInBounds_toArray, List.set_cons_zero, List.set_cons_succ]
  refine wpAnyH_done (by kernel_rfl) ?_ _
  clear naE0 naE1 naE2
  go_wp2_with fail
  go_ret
  exact ⟨rfl, (D17.out.on SE97).bel⟩
set_option maxHeartbeats 16000000 in
set_option maxRecDepth 20000 in
theorem nu13 (m op : Int) (k0 n0 : Int) (s0 : ByteArray) (k1 n1 : Int) (s1 : ByteArray) (x y : Int) (z2 : Bool) (S T : ByteArray) (v1 v2 : Int) (v3 : ByteArray) (v4 : Int) (hg : ∀ b W, Blk W b 32 [.int .i64 k0, .int .i64 n0, .string s0, .int .i64 k1, .int .i64 n1, .string s1] → Calls Tryd.prog 44 #[.slice (some ⟨b, 0, none⟩) 2 2] W fun e w' => e = .returned (.bool false) ∧ Below W.heap.size W w') (hop : wrap64 (1 + (wrap64 m).tmod 10) = op) (hx : numberF k0 n0 s0 = some (x, true)) (hy : numberF k1 n1 s1 = some (y, true)) (d1 : doF op k0 n0 s0 k1 n1 s1 0 = some (v1, v2, v3, v4)) (d2 : doF op 2 x ⟨#[]⟩ 2 y ⟨#[]⟩ 0 = some (v1, v2, v3, v4)) (hs : stringF k0 n0 s0 = some (S, false)) (ht : stringF k1 n1 s1 = some (T, z2)) (d3 : doF 11 k0 n0 s0 k1 n1 s1 ((S.size : Int) + (T.size : Int)) = some (0, 0, ⟨#[]⟩, 18)) (d4 : doF 11 k0 n0 s0 k1 n1 s1 ((S.size : Int) + (T.size : Int) - 1) = some (0, 0, ⟨#[]⟩, 18)) (o1 : oneF 23 3 0 S = some (2, (S.size : Int), ⟨#[]⟩, 0)) (hw1 : IntKind.i64.wrap ((S.size : Int) + (T.size : Int)) = (S.size : Int) + (T.size : Int)) (hw2 : IntKind.i64.wrap ((S.size : Int) + (T.size : Int) - 1) = (S.size : Int) + (T.size : Int) - 1) (hv1 : wrap64 ((S.size : Int) + (T.size : Int)) = (S.size : Int) + (T.size : Int)) (hv2 : wrap64 ((S.size : Int) + (T.size : Int) - 1) = (S.size : Int) + (T.size : Int) - 1) (hz2 : (9223372036854775807 < S.size + T.size) = False) (w : World) (hT : Tab w) : Calls Tryd.prog 10 #[.int .u8 m, .agg #[.int .i64 k0, .int .i64 n0, .string s0], .agg #[.int .i64 k1, .int .i64 n1, .string s1]] w fun e w' => e = .returned (.bool true) ∧ Below w.heap.size w w' := by
  have T0 := Lib.hid hT
  have D0 := Lib.hid (OD.start2 w 32 [.int .i64 k0, .int .i64 n0, .string s0] [.int .i64 k1, .int .i64 n1, .string s1])
  have AL := Lib.hid (fun W hW => alive_calls true W hW rfl)
  have GR := Lib.hid hg
  have NX := Lib.hid (fun W hW => number_calls k0 n0 s0 x true W hW hx)
  have NY := Lib.hid (fun W hW => number_calls k1 n1 s1 y true W hW hy)
  have E1 := Lib.hid (fun W hW => do_calls op k0 n0 s0 k1 n1 s1 0 (v1) (v2) (v3) (v4) W hW d1)
  have E2 := Lib.hid (fun W hW => do_calls op 2 x ⟨#[]⟩ 2 y ⟨#[]⟩ 0 (v1) (v2) (v3) (v4) W hW d2)
  have SX := Lib.hid (fun W hW => string_calls k0 n0 s0 S false W hW hs)
  have SY := Lib.hid (fun W hW => string_calls k1 n1 s1 T z2 W hW ht)
  have E3 := Lib.hid (fun W hW => do_calls 11 k0 n0 s0 k1 n1 s1 ((S.size : Int) + (T.size : Int)) (0) (0) (⟨#[]⟩) (18) W hW d3)
  have E4 := Lib.hid (fun W hW => do_calls 11 k0 n0 s0 k1 n1 s1 ((S.size : Int) + (T.size : Int) - 1) (0) (0) (⟨#[]⟩) (18) W hW d4)
  have ON := Lib.hid (fun W hW => one_calls 23 3 0 S 2 (S.size : Int) ⟨#[]⟩ 0 W hW o1)
  clear hT hg hx hy d1 d2 hs ht d3 d4 o1
  go_enter Tryd.func10, Tryd.ntmps10
  go_upto_region 15 with (first | (go_at_call 43; go_loud (with_reducible refine (AL.out _ (T0.out.on D0.out.bel)).mono ?_; rintro e wn1 ⟨rfl, hb⟩; have D1 := Lib.hid ((D0.out).on hb); clear hb; have u0 := (D1.out.blk _ (List.mem_cons_self)).2.cell 0 _ rfl; have uz0 := (D1.out.blk _ (List.mem_cons_self)).2.frozen 0; have u1 := (D1.out.blk _ (List.mem_cons_self)).2.cell 1 _ rfl; have uz1 := (D1.out.blk _ (List.mem_cons_self)).2.frozen 1; have u2 := (D1.out.blk _ (List.mem_cons_self)).2.cell 2 _ rfl; have uz2 := (D1.out.blk _ (List.mem_cons_self)).2.frozen 2; have ult := (D1.out).bl (List.mem_cons_self); have q0 := (D1.out.blk _ (List.mem_cons_of_mem _ (List.mem_cons_self))).2.cell 0 _ rfl; have qz0 := (D1.out.blk _ (List.mem_cons_of_mem _ (List.mem_cons_self))).2.frozen 0; have q1 := (D1.out.blk _ (List.mem_cons_of_mem _ (List.mem_cons_self))).2.cell 1 _ rfl; have qz1 := (D1.out.blk _ (List.mem_cons_of_mem _ (List.mem_cons_self))).2.frozen 1; have q2 := (D1.out.blk _ (List.mem_cons_of_mem _ (List.mem_cons_self))).2.cell 2 _ rfl; have qz2 := (D1.out.blk _ (List.mem_cons_of_mem _ (List.mem_cons_self))).2.frozen 2; have qlt := (D1.out).bl (List.mem_cons_of_mem _ (List.mem_cons_self)))) | (go_at_call 44; go_loud (with_reducible refine (GR.out _ _ (Blk.new _ [.int .i64 k0, .int .i64 n0, .string s0, .int .i64 k1, .int .i64 n1, .string s1] 32)).mono ?_; rintro e wn2 ⟨rfl, hb⟩; have D2 := Lib.hid ((D1.out.new 32 [.int .i64 k0, .int .i64 n0, .string s0, .int .i64 k1, .int .i64 n1, .string s1]).on hb); clear hb; have u0 := (D2.out.blk _ (List.mem_cons_of_mem _ (List.mem_cons_self))).2.cell 0 _ rfl; have uz0 := (D2.out.blk _ (List.mem_cons_of_mem _ (List.mem_cons_self))).2.frozen 0; have u1 := (D2.out.blk _ (List.mem_cons_of_mem _ (List.mem_cons_self))).2.cell 1 _ rfl; have uz1 := (D2.out.blk _ (List.mem_cons_of_mem _ (List.mem_cons_self))).2.frozen 1; have u2 := (D2.out.blk _ (List.mem_cons_of_mem _ (List.mem_cons_self))).2.cell 2 _ rfl; have uz2 := (D2.out.blk _ (List.mem_cons_of_mem _ (List.mem_cons_self))).2.frozen 2; have ult := (D2.out).bl (List.mem_cons_of_mem _ (List.mem_cons_self)); have q0 := (D2.out.blk _ (List.mem_cons_of_mem _ (List.mem_cons_of_mem _ (List.mem_cons_self)))).2.cell 0 _ rfl; have qz0 := (D2.out.blk _ (List.mem_cons_of_mem _ (List.mem_cons_of_mem _ (List.mem_cons_self)))).2.frozen 0; have q1 := (D2.out.blk _ (List.mem_cons_of_mem _ (List.mem_cons_of_mem _ (List.mem_cons_self)))).2.cell 1 _ rfl; have qz1 := (D2.out.blk _ (List.mem_cons_of_mem _ (List.mem_cons_of_mem _ (List.mem_cons_self)))).2.frozen 1; have q2 := (D2.out.blk _ (List.mem_cons_of_mem _ (List.mem_cons_of_mem _ (List.mem_cons_self)))).2.cell 2 _ rfl; have qz2 := (D2.out.blk _ (List.mem_cons_of_mem _ (List.mem_cons_of_mem _ (List.mem_cons_self)))).2.frozen 2; have qlt := (D2.out).bl (List.mem_cons_of_mem _ (List.mem_cons_of_mem _ (List.mem_cons_self))))) | (go_at_call 52; go_loud (with_reducible refine (NX.out _ (T0.out.on (D2.out).bel)).mono ?_; rintro e wn3 ⟨rfl, hb⟩; have D3 := Lib.hid ((D2.out).on hb); clear hb; have u0 := (D3.out.blk _ (List.mem_cons_of_mem _ (List.mem_cons_self))).2.cell 0 _ rfl; have uz0 := (D3.out.blk _ (List.mem_cons_of_mem _ (List.mem_cons_self))).2.frozen 0; have u1 := (D3.out.blk _ (List.mem_cons_of_mem _ (List.mem_cons_self))).2.cell 1 _ rfl; have uz1 := (D3.out.blk _ (List.mem_cons_of_mem _ (List.mem_cons_self))).2.frozen 1; have u2 := (D3.out.blk _ (List.mem_cons_of_mem _ (List.mem_cons_self))).2.cell 2 _ rfl; have uz2 := (D3.out.blk _ (List.mem_cons_of_mem _ (List.mem_cons_self))).2.frozen 2; have ult := (D3.out).bl (List.mem_cons_of_mem _ (List.mem_cons_self)); have q0 := (D3.out.blk _ (List.mem_cons_of_mem _ (List.mem_cons_of_mem _ (List.mem_cons_self)))).2.cell 0 _ rfl; have qz0 := (D3.out.blk _ (List.mem_cons_of_mem _ (List.mem_cons_of_mem _ (List.mem_cons_self)))).2.frozen 0; have q1 := (D3.out.blk _ (List.mem_cons_of_mem _ (List.mem_cons_of_mem _ (List.mem_cons_self)))).2.cell 1 _ rfl; have qz1 := (D3.out.blk _ (List.mem_cons_of_mem _ (List.mem_cons_of_mem _ (List.mem_cons_self)))).2.frozen 1; have q2 := (D3.out.blk _ (List.mem_cons_of_mem _ (List.mem_cons_of_mem _ (List.mem_cons_self)))).2.cell 2 _ rfl; have qz2 := (D3.out.blk _ (List.mem_cons_of_mem _ (List.mem_cons_of_mem _ (List.mem_cons_self)))).2.frozen 2; have qlt := (D3.out).bl (List.mem_cons_of_mem _ (List.mem_cons_of_mem _ (List.mem_cons_self))))) | (go_at_call 52; go_loud (with_reducible refine (NY.out _ (T0.out.on (D3.out).bel)).mono ?_; rintro e wn4 ⟨rfl, hb⟩; have D4 := Lib.hid ((D3.out).on hb); clear hb; have u0 := (D4.out.blk _ (List.mem_cons_of_mem _ (List.mem_cons_self))).2.cell 0 _ rfl; have uz0 := (D4.out.blk _ (List.mem_cons_of_mem _ (List.mem_cons_self))).2.frozen 0; have u1 := (D4.out.blk _ (List.mem_cons_of_mem _ (List.mem_cons_self))).2.cell 1 _ rfl; have uz1 := (D4.out.blk _ (List.mem_cons_of_mem _ (List.mem_cons_self))).2.frozen 1; have u2 := (D4.out.blk _ (List.mem_cons_of_mem _ (List.mem_cons_self))).2.cell 2 _ rfl; have uz2 := (D4.out.blk _ (List.mem_cons_of_mem _ (List.mem_cons_self))).2.frozen 2; have ult := (D4.out).bl (List.mem_cons_of_mem _ (List.mem_cons_self)); have q0 := (D4.out.blk _ (List.mem_cons_of_mem _ (List.mem_cons_of_mem _ (List.mem_cons_self)))).2.cell 0 _ rfl; have qz0 := (D4.out.blk _ (List.mem_cons_of_mem _ (List.mem_cons_of_mem _ (List.mem_cons_self)))).2.frozen 0; have q1 := (D4.out.blk _ (List.mem_cons_of_mem _ (List.mem_cons_of_mem _ (List.mem_cons_self)))).2.cell 1 _ rfl; have qz1 := (D4.out.blk _ (List.mem_cons_of_mem _ (List.mem_cons_of_mem _ (List.mem_cons_self)))).2.frozen 1; have q2 := (D4.out.blk _ (List.mem_cons_of_mem _ (List.mem_cons_of_mem _ (List.mem_cons_self)))).2.cell 2 _ rfl; have qz2 := (D4.out.blk _ (List.mem_cons_of_mem _ (List.mem_cons_of_mem _ (List.mem_cons_self)))).2.frozen 2; have qlt := (D4.out).bl (List.mem_cons_of_mem _ (List.mem_cons_of_mem _ (List.mem_cons_self))))) | (go_at_call 46; go_loud (with_reducible refine (E1.out _ (T0.out.on (D4.out).bel)).mono ?_; rintro e wn5 ⟨rfl, hb⟩; have D5 := Lib.hid ((D4.out).on hb); clear hb)) | (go_at_call 53; go_loud (with_reducible refine (hInt x _).mono ?_; rintro e wn6 ⟨rfl, hb⟩; have D6 := Lib.hid ((D5.out.new 32 [.int .i64 v1, .int .i64 v2, .string v3]).on hb); clear hb)) | (go_at_call 53; go_loud (with_reducible refine (hInt y _).mono ?_; rintro e wn7 ⟨rfl, hb⟩; have D7 := Lib.hid ((D6.out).on hb); clear hb)) | (go_at_call 46; go_loud (with_reducible refine (E2.out _ (T0.out.on (D7.out).bel)).mono ?_; rintro e wn8 ⟨rfl, hb⟩; have D8 := Lib.hid ((D7.out).on hb); clear hb; have r0 := (D8.out.blk _ (List.mem_cons_self)).2.cell 0 _ rfl; have rz0 := (D8.out.blk _ (List.mem_cons_self)).2.frozen 0; have r1 := (D8.out.blk _ (List.mem_cons_self)).2.cell 1 _ rfl; have rz1 := (D8.out.blk _ (List.mem_cons_self)).2.frozen 1; have r2 := (D8.out.blk _ (List.mem_cons_self)).2.cell 2 _ rfl; have rz2 := (D8.out.blk _ (List.mem_cons_self)).2.frozen 2; have rlt := (D8.out).bl (List.mem_cons_self); have u0 := (D8.out.blk _ (List.mem_cons_of_mem _ (List.mem_cons_of_mem _ (List.mem_cons_self)))).2.cell 0 _ rfl; have uz0 := (D8.out.blk _ (List.mem_cons_of_mem _ (List.mem_cons_of_mem _ (List.mem_cons_self)))).2.frozen 0; have u1 := (D8.out.blk _ (List.mem_cons_of_mem _ (List.mem_cons_of_mem _ (List.mem_cons_self)))).2.cell 1 _ rfl; have uz1 := (D8.out.blk _ (List.mem_cons_of_mem _ (List.mem_cons_of_mem _ (List.mem_cons_self)))).2.frozen 1; have u2 := (D8.out.blk _ (List.mem_cons_of_mem _ (List.mem_cons_of_mem _ (List.mem_cons_self)))).2.cell 2 _ rfl; have uz2 := (D8.out.blk _ (List.mem_cons_of_mem _ (List.mem_cons_of_mem _ (List.mem_cons_self)))).2.frozen 2; have ult := (D8.out).bl (List.mem_cons_of_mem _ (List.mem_cons_of_mem _ (List.mem_cons_self))); have q0 := (D8.out.blk _ (List.mem_cons_of_mem _ (List.mem_cons_of_mem _ (List.mem_cons_of_mem _ (List.mem_cons_self))))).2.cell 0 _ rfl; have qz0 := (D8.out.blk _ (List.mem_cons_of_mem _ (List.mem_cons_of_mem _ (List.mem_cons_of_mem _ (List.mem_cons_self))))).2.frozen 0; have q1 := (D8.out.blk _ (List.mem_cons_of_mem _ (List.mem_cons_of_mem _ (List.mem_cons_of_mem _ (List.mem_cons_self))))).2.cell 1 _ rfl; have qz1 := (D8.out.blk _ (List.mem_cons_of_mem _ (List.mem_cons_of_mem _ (List.mem_cons_of_mem _ (List.mem_cons_self))))).2.frozen 1; have q2 := (D8.out.blk _ (List.mem_cons_of_mem _ (List.mem_cons_of_mem _ (List.mem_cons_of_mem _ (List.mem_cons_self))))).2.cell 2 _ rfl; have qz2 := (D8.out.blk _ (List.mem_cons_of_mem _ (List.mem_cons_of_mem _ (List.mem_cons_of_mem _ (List.mem_cons_self))))).2.frozen 2; have qlt := (D8.out).bl (List.mem_cons_of_mem _ (List.mem_cons_of_mem _ (List.mem_cons_of_mem _ (List.mem_cons_self)))))) | (go_at_call 54; go_loud (with_reducible refine (SX.out _ (T0.out.on (D8.out.new 32 [.int .i64 v1, .int .i64 v2, .string v3]).bel)).mono ?_; rintro e wn9 ⟨rfl, hb⟩; have D9 := Lib.hid ((D8.out.new 32 [.int .i64 v1, .int .i64 v2, .string v3]).on hb); clear hb; have u0 := (D9.out.blk _ (List.mem_cons_of_mem _ (List.mem_cons_of_mem _ (List.mem_cons_of_mem _ (List.mem_cons_self))))).2.cell 0 _ rfl; have uz0 := (D9.out.blk _ (List.mem_cons_of_mem _ (List.mem_cons_of_mem _ (List.mem_cons_of_mem _ (List.mem_cons_self))))).2.frozen 0; have u1 := (D9.out.blk _ (List.mem_cons_of_mem _ (List.mem_cons_of_mem _ (List.mem_cons_of_mem _ (List.mem_cons_self))))).2.cell 1 _ rfl; have uz1 := (D9.out.blk _ (List.mem_cons_of_mem _ (List.mem_cons_of_mem _ (List.mem_cons_of_mem _ (List.mem_cons_self))))).2.frozen 1; have u2 := (D9.out.blk _ (List.mem_cons_of_mem _ (List.mem_cons_of_mem _ (List.mem_cons_of_mem _ (List.mem_cons_self))))).2.cell 2 _ rfl; have uz2 := (D9.out.blk _ (List.mem_cons_of_mem _ (List.mem_cons_of_mem _ (List.mem_cons_of_mem _ (List.mem_cons_self))))).2.frozen 2; have ult := (D9.out).bl (List.mem_cons_of_mem _ (List.mem_cons_of_mem _ (List.mem_cons_of_mem _ (List.mem_cons_self)))); have q0 := (D9.out.blk _ (List.mem_cons_of_mem _ (List.mem_cons_of_mem _ (List.mem_cons_of_mem _ (List.mem_cons_of_mem _ (List.mem_cons_self)))))).2.cell 0 _ rfl; have qz0 := (D9.out.blk _ (List.mem_cons_of_mem _ (List.mem_cons_of_mem _ (List.mem_cons_of_mem _ (List.mem_cons_of_mem _ (List.mem_cons_self)))))).2.frozen 0; have q1 := (D9.out.blk _ (List.mem_cons_of_mem _ (List.mem_cons_of_mem _ (List.mem_cons_of_mem _ (List.mem_cons_of_mem _ (List.mem_cons_self)))))).2.cell 1 _ rfl; have qz1 := (D9.out.blk _ (List.mem_cons_of_mem _ (List.mem_cons_of_mem _ (List.mem_cons_of_mem _ (List.mem_cons_of_mem _ (List.mem_cons_self)))))).2.frozen 1; have q2 := (D9.out.blk _ (List.mem_cons_of_mem _ (List.mem_cons_of_mem _ (List.mem_cons_of_mem _ (List.mem_cons_of_mem _ (List.mem_cons_self)))))).2.cell 2 _ rfl; have qz2 := (D9.out.blk _ (List.mem_cons_of_mem _ (List.mem_cons_of_mem _ (List.mem_cons_of_mem _ (List.mem_cons_of_mem _ (List.mem_cons_self)))))).2.frozen 2; have qlt := (D9.out).bl (List.mem_cons_of_mem _ (List.mem_cons_of_mem _ (List.mem_cons_of_mem _ (List.mem_cons_of_mem _ (List.mem_cons_self))))))) | (go_at_call 54; go_loud (with_reducible refine (SY.out _ (T0.out.on (D9.out).bel)).mono ?_; rintro e wn10 ⟨rfl, hb⟩; have D10 := Lib.hid ((D9.out).on hb); clear hb; have u0 := (D10.out.blk _ (List.mem_cons_of_mem _ (List.mem_cons_of_mem _ (List.mem_cons_of_mem _ (List.mem_cons_self))))).2.cell 0 _ rfl; have uz0 := (D10.out.blk _ (List.mem_cons_of_mem _ (List.mem_cons_of_mem _ (List.mem_cons_of_mem _ (List.mem_cons_self))))).2.frozen 0; have u1 := (D10.out.blk _ (List.mem_cons_of_mem _ (List.mem_cons_of_mem _ (List.mem_cons_of_mem _ (List.mem_cons_self))))).2.cell 1 _ rfl; have uz1 := (D10.out.blk _ (List.mem_cons_of_mem _ (List.mem_cons_of_mem _ (List.mem_cons_of_mem _ (List.mem_cons_self))))).2.frozen 1; have u2 := (D10.out.blk _ (List.mem_cons_of_mem _ (List.mem_cons_of_mem _ (List.mem_cons_of_mem _ (List.mem_cons_self))))).2.cell 2 _ rfl; have uz2 := (D10.out.blk _ (List.mem_cons_of_mem _ (List.mem_cons_of_mem _ (List.mem_cons_of_mem _ (List.mem_cons_self))))).2.frozen 2; have ult := (D10.out).bl (List.mem_cons_of_mem _ (List.mem_cons_of_mem _ (List.mem_cons_of_mem _ (List.mem_cons_self)))); have q0 := (D10.out.blk _ (List.mem_cons_of_mem _ (List.mem_cons_of_mem _ (List.mem_cons_of_mem _ (List.mem_cons_of_mem _ (List.mem_cons_self)))))).2.cell 0 _ rfl; have qz0 := (D10.out.blk _ (List.mem_cons_of_mem _ (List.mem_cons_of_mem _ (List.mem_cons_of_mem _ (List.mem_cons_of_mem _ (List.mem_cons_self)))))).2.frozen 0; have q1 := (D10.out.blk _ (List.mem_cons_of_mem _ (List.mem_cons_of_mem _ (List.mem_cons_of_mem _ (List.mem_cons_of_mem _ (List.mem_cons_self)))))).2.cell 1 _ rfl; have qz1 := (D10.out.blk _ (List.mem_cons_of_mem _ (List.mem_cons_of_mem _ (List.mem_cons_of_mem _ (List.mem_cons_of_mem _ (List.mem_cons_self)))))).2.frozen 1; have q2 := (D10.out.blk _ (List.mem_cons_of_mem _ (List.mem_cons_of_mem _ (List.mem_cons_of_mem _ (List.mem_cons_of_mem _ (List.mem_cons_self)))))).2.cell 2 _ rfl; have qz2 := (D10.out.blk _ (List.mem_cons_of_mem _ (List.mem_cons_of_mem _ (List.mem_cons_of_mem _ (List.mem_cons_of_mem _ (List.mem_cons_self)))))).2.frozen 2; have qlt := (D10.out).bl (List.mem_cons_of_mem _ (List.mem_cons_of_mem _ (List.mem_cons_of_mem _ (List.mem_cons_of_mem _ (List.mem_cons_self))))))) | (go_at_call 46; go_loud (with_reducible refine (E3.out _ (T0.out.on (D10.out).bel)).mono ?_; rintro e wn11 ⟨rfl, hb⟩; have D11 := Lib.hid ((D10.out).on hb); clear hb)))
  have hu := Tryd.underlying32
  have D12 := Lib.hid (D11.out.new 32 [.int .i64 0, .int .i64 0, .string ⟨#[]⟩])
  obtain ⟨w1, hw1⟩ : ∃ z, z = wn11.alloc (.cells #[.int .i64 0, .int .i64 0, .string ⟨#[]⟩] 32) := ⟨_, rfl⟩
  obtain ⟨x20, hx20⟩ : ∃ z, z = wn11.heap.size := ⟨_, rfl⟩
  rw [← hw1] at D12
  rw [← hx20] at D12
  simp only [← hw1, ← hx20]
  clear hw1 hx20
  have hBB : Below w1.heap.size w1 ({ w1 with drawn := w1.drawn + 1 } : World) := ⟨rfl, rfl, rfl, Nat.le_refl _, fun _ _ => rfl⟩
  refine wp_region_held (S := Below w1.heap.size w1) (by kernel_rfl) ?_
  have hSB := hBB
  generalize ({ w1 with drawn := w1.drawn + 1 } : World) = wB at hSB hBB ⊢
  have hleB := D12.out.bel.size
  have hslB := hSB.size
  have caB0 : ∀ W, Below w1.heap.size w1 W → W.cell? ⟨x20, 0, none⟩ = some (.int .i64 0) := fun W hW => ((D12.out.on hW).blk _ (List.mem_cons_self)).2.cell 0 _ rfl
  have caB1 : ∀ W, Below w1.heap.size w1 W → W.cell? ⟨x20, 1, none⟩ = some (.int .i64 0) := fun W hW => ((D12.out.on hW).blk _ (List.mem_cons_self)).2.cell 1 _ rfl
  have caB2 : ∀ W, Below w1.heap.size w1 W → W.cell? ⟨x20, 2, none⟩ = some (.string ⟨#[]⟩) := fun W hW => ((D12.out.on hW).blk _ (List.mem_cons_self)).2.cell 2 _ rfl
  refine takeH 0 (oi := ⟨some 108, _, _, _, _, _⟩) (v := ?_) rfl (by kernel_rfl) (by kernel_rfl) (by kernel_rfl) (fun _ _ _ h => h) (Or.inl ⟨by rfl, ?hyB101⟩) hSB ?restB101
  case hyB101 => (intro W hW; (try dsimp only at hW); go_simp; try with_reducible rfl)
  try simp only [Act.put, List.setIfInBounds_toArray, List.set_cons_zero, List.set_cons_succ]
  refine takeH 1 (oi := ⟨some 109, _, _, _, _, _⟩) (v := ?_) rfl (by kernel_rfl) (by kernel_rfl) (by kernel_rfl) (fun _ _ _ h => h) (Or.inl ⟨by rfl, ?hyB102⟩) hSB ?restB102
  case hyB102 => (intro W hW; (try dsimp only at hW); go_simp; try with_reducible rfl)
  try simp only [Act.put, List.setIfInBounds_toArray, List.set_cons_zero, List.set_cons_succ]
  refine takeH 2 (oi := ⟨some 110, _, _, _, _, _⟩) (v := undef) rfl (by kernel_rfl) (by kernel_rfl) (by kernel_rfl) (fun _ _ _ h => h) (Or.inr ⟨by rfl, rfl⟩) hSB ?restB103
  try simp only [Act.put, List.setIfInBounds_toArray, List.set_cons_zero, List.set_cons_succ]
  refine takeH 3 (oi := ⟨some 111, _, _, _, _, _⟩) (v := ?_) rfl (by kernel_rfl) (by kernel_rfl) (by kernel_rfl) (fun _ _ _ h => h) (Or.inl ⟨by rfl, ?hyB104⟩) hSB ?restB104
  case hyB104 => (intro W hW; (try dsimp only at hW); go_simp; try with_reducible rfl)
  try simp only [Act.put, List.setIfInBounds_toArray, List.set_cons_zero, List.set_cons_succ]
  refine takeH 4 (oi := ⟨some 112, _, _, _, _, _⟩) (v := ?_) rfl (by kernel_rfl) (by kernel_rfl) (by kernel_rfl) (fun _ _ _ h => h) (Or.inl ⟨by rfl, ?hyB105⟩) hSB ?restB105
  case hyB105 => (intro W hW; (try dsimp only at hW); go_simp; try with_reducible rfl)
  try simp only [Act.put, List.setIfInBounds_toArray, List.set_cons_zero, List.set_cons_succ]
  refine takeH 5 (oi := ⟨some 113, _, _, _, _, _⟩) (v := ?_) rfl (by kernel_rfl) (by kernel_rfl) (by kernel_rfl) (fun _ _ _ h => h) (Or.inl ⟨by rfl, ?hyB106⟩) hSB ?restB106
  case hyB106 => (intro W hW; (try dsimp only at hW); go_simp; try with_reducible rfl)
  try simp only [Act.put, List.setIfInBounds_toArray, List.set_cons_zero, List.set_cons_succ]
  refine takeH 6 (oi := ⟨some 114, _, _, _, _, _⟩) (v := ?_) rfl (by kernel_rfl) (by kernel_rfl) (by kernel_rfl) (fun _ _ _ h => h) (Or.inl ⟨by rfl, ?hyB107⟩) hSB ?restB107
  case hyB107 => (intro W hW; (try dsimp only at hW); go_simp; try with_reducible rfl)
  try simp only [Act.put, List.setIfInBounds_toArray, List.set_cons_zero, List.set_cons_succ]
  refine takeH 7 (oi := ⟨some 115, _, _, _, _, _⟩) (v := ?_) rfl (by kernel_rfl) (by kernel_rfl) (by kernel_rfl) (fun _ _ _ h => h) (Or.inl ⟨by rfl, ?hyB108⟩) hSB ?restB108
  case hyB108 => (intro W hW; (try dsimp only at hW); go_simp; try with_reducible rfl)
  try simp only [Act.put, List.setIfInBounds_toArray, List.set_cons_zero, List.set_cons_succ]
  refine takeH 8 (oi := ⟨some 116, _, _, _, _, _⟩) (v := ?_) rfl (by kernel_rfl) (by kernel_rfl) (by kernel_rfl) (fun _ _ _ h => h) (Or.inl ⟨by rfl, ?hyB109⟩) hSB ?restB109
  case hyB109 => (intro W hW; (try dsimp only at hW); go_simp; try with_reducible rfl)
  try simp only [Act.put, List.setIfInBounds_toArray, List.set_cons_zero, List.set_cons_succ]
  refine takeH 9 (oi := ⟨some 117, _, _, _, _, _⟩) (v := ?_) rfl (by kernel_rfl) (by kernel_rfl) (by kernel_rfl) (fun _ _ _ h => h) (Or.inl ⟨by rfl, ?hyB110⟩) hSB ?restB110
  case hyB110 => (intro W hW; (try dsimp only at hW); go_simp; try with_reducible rfl)
  try simp only [Act.put, List.setIfInBounds_toArray, List.set_cons_zero, List.set_cons_succ]
  refine takeH 10 (oi := ⟨some 118, _, _, _, _, _⟩) (v := undef) rfl (by kernel_rfl) (by kernel_rfl) (by kernel_rfl) (fun _ _ _ h => h) (Or.inr ⟨by rfl, rfl⟩) hSB ?restB111
  try simp only [Act.put, List.setIfInBounds_toArray, List.set_cons_zero, List.set_cons_succ]
  refine takeH 11 (oi := ⟨some 119, _, _, _, _, _⟩) (v := ?_) rfl (by kernel_rfl) (by kernel_rfl) (by kernel_rfl) (fun _ _ _ h => h) (Or.inl ⟨by rfl, ?hyB112⟩) hSB ?restB112
  case hyB112 => (intro W hW; (try dsimp only at hW); go_simp; try with_reducible rfl)
  try simp only [Act.put, List.setIfInBounds_toArray, List.set_cons_zero, List.set_cons_succ]
  refine takeH 12 (oi := ⟨some 120, _, _, _, _, _⟩) (v := ?_) rfl (by kernel_rfl) (by kernel_rfl) (by kernel_rfl) (fun _ _ _ h => h) (Or.inl ⟨by rfl, ?hyB113⟩) hSB ?restB113
  case hyB113 => (intro W hW; (try dsimp only at hW); go_simp; try with_reducible rfl)
  try simp only [Act.put, List.setIfInBounds_toArray, List.set_cons_zero, List.set_cons_succ]
  refine takeH 13 (oi := ⟨some 121, _, _, _, _, _⟩) (v := undef) rfl (by kernel_rfl) (by kernel_rfl) (by kernel_rfl) (fun _ _ _ h => h) (Or.inr ⟨by rfl, rfl⟩) hSB ?restB114
  try simp only [Act.put, List.setIfInBounds_toArray, List.set_cons_zero, List.set_cons_succ]
  refine takeH 14 (oi := ⟨some 122, _, _, _, _, _⟩) (v := undef) rfl (by kernel_rfl) (by kernel_rfl) (by kernel_rfl) (fun _ _ _ h => h) (Or.inr ⟨by rfl, rfl⟩) hSB ?restB115
  try simp only [Act.put, List.setIfInBounds_toArray, List.set_cons_zero, List.set_cons_succ]
  refine takeH 15 (oi := ⟨some 123, _, _, _, _, _⟩) (v := undef) rfl (by kernel_rfl) (by kernel_rfl) (by kernel_rfl) (fun _ _ _ h => h) (Or.inr ⟨by rfl, rfl⟩) hSB ?restB116
  try simp only [Act.put, List.setIfInBounds_toArray, List.set_cons_zero, List.set_cons_succ]
  refine takeH 16 (oi := ⟨some 124, _, _, _, _, _⟩) (v := undef) rfl (by kernel_rfl) (by kernel_rfl) (by kernel_rfl) (fun _ _ _ h => h) (Or.inr ⟨by rfl, rfl⟩) hSB ?restB117
  try simp only [Act.put, List.setIfInBounds_toArray, List.set_cons_zero, List.set_cons_succ]
  refine takeH 17 (oi := ⟨some 125, _, _, _, _, _⟩) (v := undef) rfl (by kernel_rfl) (by kernel_rfl) (by kernel_rfl) (fun _ _ _ h => h) (Or.inr ⟨by rfl, rfl⟩) hSB ?restB118
  try simp only [Act.put, List.setIfInBounds_toArray, List.set_cons_zero, List.set_cons_succ]
  refine takeH 18 (oi := ⟨some 126, _, _, _, _, _⟩) (v := undef) rfl (by kernel_rfl) (by kernel_rfl) (by kernel_rfl) (fun _ _ _ h => h) (Or.inr ⟨by rfl, rfl⟩) hSB ?restB119
  try simp only [Act.put, List.setIfInBounds_toArray, List.set_cons_zero, List.set_cons_succ]
  refine takeH 19 (oi := ⟨some 127, _, _, _, _, _⟩) (v := ?_) rfl (by kernel_rfl) (by kernel_rfl) (by kernel_rfl) (fun _ _ _ h => h) (Or.inl ⟨by rfl, ?hyB120⟩) hSB ?restB120
  case hyB120 => (intro W hW; (try dsimp only at hW); go_simp; try with_reducible rfl)
  try simp only [Act.put, List.setIfInBounds_toArray, List.set_cons_zero, List.set_cons_succ]
  refine takeH 20 (oi := ⟨some 128, _, _, _, _, _⟩) (v := ?_) rfl (by kernel_rfl) (by kernel_rfl) (by kernel_rfl) (fun _ _ _ h => h) (Or.inl ⟨by rfl, ?hyB121⟩) hSB ?restB121
  case hyB121 => (intro W hW; (try dsimp only at hW); go_simp; try with_reducible rfl)
  try simp only [Act.put, List.setIfInBounds_toArray, List.set_cons_zero, List.set_cons_succ]
  refine wpAnyH_done (by kernel_rfl) ?_ _
  clear caB0 caB1 caB2
  have D13 := Lib.hid (D12.out.on hSB)
  generalize wB = W4 at D13 ⊢
  have u0 := (D13.out.blk _ (List.mem_cons_of_mem _ (List.mem_cons_of_mem _ (List.mem_cons_of_mem _ (List.mem_cons_of_mem _ (List.mem_cons_self)))))).2.cell 0 _ rfl; have uz0 := (D13.out.blk _ (List.mem_cons_of_mem _ (List.mem_cons_of_mem _ (List.mem_cons_of_mem _ (List.mem_cons_of_mem _ (List.mem_cons_self)))))).2.frozen 0; have u1 := (D13.out.blk _ (List.mem_cons_of_mem _ (List.mem_cons_of_mem _ (List.mem_cons_of_mem _ (List.mem_cons_of_mem _ (List.mem_cons_self)))))).2.cell 1 _ rfl; have uz1 := (D13.out.blk _ (List.mem_cons_of_mem _ (List.mem_cons_of_mem _ (List.mem_cons_of_mem _ (List.mem_cons_of_mem _ (List.mem_cons_self)))))).2.frozen 1; have u2 := (D13.out.blk _ (List.mem_cons_of_mem _ (List.mem_cons_of_mem _ (List.mem_cons_of_mem _ (List.mem_cons_of_mem _ (List.mem_cons_self)))))).2.cell 2 _ rfl; have uz2 := (D13.out.blk _ (List.mem_cons_of_mem _ (List.mem_cons_of_mem _ (List.mem_cons_of_mem _ (List.mem_cons_of_mem _ (List.mem_cons_self)))))).2.frozen 2; have ult := (D13.out).bl (List.mem_cons_of_mem _ (List.mem_cons_of_mem _ (List.mem_cons_of_mem _ (List.mem_cons_of_mem _ (List.mem_cons_self))))); have q0 := (D13.out.blk _ (List.mem_cons_of_mem _ (List.mem_cons_of_mem _ (List.mem_cons_of_mem _ (List.mem_cons_of_mem _ (List.mem_cons_of_mem _ (List.mem_cons_self))))))).2.cell 0 _ rfl; have qz0 := (D13.out.blk _ (List.mem_cons_of_mem _ (List.mem_cons_of_mem _ (List.mem_cons_of_mem _ (List.mem_cons_of_mem _ (List.mem_cons_of_mem _ (List.mem_cons_self))))))).2.frozen 0; have q1 := (D13.out.blk _ (List.mem_cons_of_mem _ (List.mem_cons_of_mem _ (List.mem_cons_of_mem _ (List.mem_cons_of_mem _ (List.mem_cons_of_mem _ (List.mem_cons_self))))))).2.cell 1 _ rfl; have qz1 := (D13.out.blk _ (List.mem_cons_of_mem _ (List.mem_cons_of_mem _ (List.mem_cons_of_mem _ (List.mem_cons_of_mem _ (List.mem_cons_of_mem _ (List.mem_cons_self))))))).2.frozen 1; have q2 := (D13.out.blk _ (List.mem_cons_of_mem _ (List.mem_cons_of_mem _ (List.mem_cons_of_mem _ (List.mem_cons_of_mem _ (List.mem_cons_of_mem _ (List.mem_cons_self))))))).2.cell 2 _ rfl; have qz2 := (D13.out.blk _ (List.mem_cons_of_mem _ (List.mem_cons_of_mem _ (List.mem_cons_of_mem _ (List.mem_cons_of_mem _ (List.mem_cons_of_mem _ (List.mem_cons_self))))))).2.frozen 2; have qlt := (D13.out).bl (List.mem_cons_of_mem _ (List.mem_cons_of_mem _ (List.mem_cons_of_mem _ (List.mem_cons_of_mem _ (List.mem_cons_of_mem _ (List.mem_cons_self))))))
  go_upto_region 19 with (first | (go_at_call 46; go_loud (with_reducible refine (E4.out _ (T0.out.on (D13.out).bel)).mono ?_; rintro e wn14 ⟨rfl, hb⟩; have D14 := Lib.hid ((D13.out).on hb); clear hb)) | (go_at_call 55; go_loud (with_reducible refine (hStr _ _).mono ?_; rintro e wn15 ⟨rfl, hb⟩; have D15 := Lib.hid ((D14.out.new 32 [.int .i64 0, .int .i64 0, .string ⟨#[]⟩]).on hb); clear hb)) | (go_at_call 56; go_loud (with_reducible refine (ON.out _ (T0.out.on (D15.out).bel)).mono ?_; rintro e wn16 ⟨rfl, hb⟩; have D16 := Lib.hid ((D15.out).on hb); clear hb)))
  have D17 := Lib.hid (D16.out.new 32 [.int .i64 2, .int .i64 (S.size : Int), .string ⟨#[]⟩])
  obtain ⟨w5, hw5⟩ : ∃ z, z = wn16.alloc (.cells #[.int .i64 2, .int .i64 (S.size : Int), .string ⟨#[]⟩] 32) := ⟨_, rfl⟩
  obtain ⟨x24, hx24⟩ : ∃ z, z = wn16.heap.size := ⟨_, rfl⟩
  rw [← hw5] at D17
  rw [← hx24] at D17
  simp only [← hw5, ← hx24]
  clear hw5 hx24
  have hBE : Below w5.heap.size w5 ({ w5 with drawn := w5.drawn + 1 } : World) := ⟨rfl, rfl, rfl, Nat.le_refl _, fun _ _ => rfl⟩
  refine wp_region_held (S := Below w5.heap.size w5) (by kernel_rfl) ?_
  have hSE := hBE
  generalize ({ w5 with drawn := w5.drawn + 1 } : World) = wE at hSE hBE ⊢
  have hleE := D17.out.bel.size
  have hslE := hSE.size
  have naE0 : ∀ W, Below w5.heap.size w5 W → W.cell? ⟨x24, 0, none⟩ = some (.int .i64 2) := fun W hW => ((D17.out.on hW).blk _ (List.mem_cons_self)).2.cell 0 _ rfl
  have naE1 : ∀ W, Below w5.heap.size w5 W → W.cell? ⟨x24, 1, none⟩ = some (.int .i64 (S.size : Int)) := fun W hW => ((D17.out.on hW).blk _ (List.mem_cons_self)).2.cell 1 _ rfl
  have naE2 : ∀ W, Below w5.heap.size w5 W → W.cell? ⟨x24, 2, none⟩ = some (.string ⟨#[]⟩) := fun W hW => ((D17.out.on hW).blk _ (List.mem_cons_self)).2.cell 2 _ rfl
  refine takeH 0 (oi := ⟨some 147, _, _, _, _, _⟩) (v := ?_) rfl (by kernel_rfl) (by kernel_rfl) (by kernel_rfl) (fun _ _ _ h => h) (Or.inl ⟨by rfl, ?hyE122⟩) hSE ?restE122
  case hyE122 => (intro W hW; (try dsimp only at hW); go_simp; try with_reducible rfl)
  try simp only [Act.put, List.setIfInBounds_toArray, List.set_cons_zero, List.set_cons_succ]
  refine takeH 1 (oi := ⟨some 148, _, _, _, _, _⟩) (v := ?_) rfl (by kernel_rfl) (by kernel_rfl) (by kernel_rfl) (fun _ _ _ h => h) (Or.inl ⟨by rfl, ?hyE123⟩) hSE ?restE123
  case hyE123 => (intro W hW; (try dsimp only at hW); go_simp; try with_reducible rfl)
  try simp only [Act.put, List.setIfInBounds_toArray, List.set_cons_zero, List.set_cons_succ]
  refine takeH 2 (oi := ⟨some 149, _, _, _, _, _⟩) (v := undef) rfl (by kernel_rfl) (by kernel_rfl) (by kernel_rfl) (fun _ _ _ h => h) (Or.inr ⟨by rfl, rfl⟩) hSE ?restE124
  try simp only [Act.put, List.setIfInBounds_toArray, List.set_cons_zero, List.set_cons_succ]
  refine takeH 3 (oi := ⟨some 150, _, _, _, _, _⟩) (v := ?_) rfl (by kernel_rfl) (by kernel_rfl) (by kernel_rfl) (fun _ _ _ h => h) (Or.inl ⟨by rfl, ?hyE125⟩) hSE ?restE125
  case hyE125 => (intro W hW; (try dsimp only at hW); go_simp; try with_reducible rfl)
  try simp only [Act.put, List.setIfInBounds_toArray, List.set_cons_zero, List.set_cons_succ]
  refine takeH 4 (oi := ⟨some 151, _, _, _, _, _⟩) (v := ?_) rfl (by kernel_rfl) (by kernel_rfl) (by kernel_rfl) (fun _ _ _ h => h) (Or.inl ⟨by rfl, ?hyE126⟩) hSE ?restE126
  case hyE126 => (intro W hW; (try dsimp only at hW); go_simp; try with_reducible rfl)
  try simp only [Act.put, List.setIfInBounds_toArray, List.set_cons_zero, List.set_cons_succ]
  refine takeH 5 (oi := ⟨some 152, _, _, _, _, _⟩) (v := ?_) rfl (by kernel_rfl) (by kernel_rfl) (by kernel_rfl) (fun _ _ _ h => h) (Or.inl ⟨by rfl, ?hyE127⟩) hSE ?restE127
  case hyE127 => (intro W hW; (try dsimp only at hW); go_simp; try with_reducible rfl)
  try simp only [Act.put, List.setIfInBounds_toArray, List.set_cons_zero, List.set_cons_succ]
  refine takeH 6 (oi := ⟨some 153, _, _, _, _, _⟩) (v := undef) rfl (by kernel_rfl) (by kernel_rfl) (by kernel_rfl) (fun _ _ _ h => h) (Or.inr ⟨by rfl, rfl⟩) hSE ?restE128
  try simp only [Act.put, List.setIfInBounds_toArray, List.set_cons_zero, List.set_cons_succ]
  refine takeH 7 (oi := ⟨some 154, _, _, _, _, _⟩) (v := undef) rfl (by kernel_rfl) (by kernel_rfl) (by kernel_rfl) (fun _ _ _ h => h) (Or.inr ⟨by rfl, rfl⟩) hSE ?restE129
  try simp only [Act.put, List.setIfInBounds_toArray, List.set_cons_zero, List.set_cons_succ]
  refine takeH 8 (oi := ⟨some 155, _, _, _, _, _⟩) (v := undef) rfl (by kernel_rfl) (by kernel_rfl) (by kernel_rfl) (fun _ _ _ h => h) (Or.inr ⟨by rfl, rfl⟩) hSE ?restE130
  try simp only [Act.put, List.setIfInBounds_toArray, List.set_cons_zero, List.set_cons_succ]
  refine takeH 9 (oi := ⟨some 156, _, _, _, _, _⟩) (v := undef) rfl (by kernel_rfl) (by kernel_rfl) (by kernel_rfl) (fun _ _ _ h => h) (Or.inr ⟨by rfl, rfl⟩) hSE ?restE131
  try simp only [Act.put, List.setIfInBounds_toArray, List.set_cons_zero, List.set_cons_succ]
  refine takeH 10 (oi := ⟨some 157, _, _, _, _, _⟩) (v := undef) rfl (by kernel_rfl) (by kernel_rfl) (by kernel_rfl) (fun _ _ _ h => h) (Or.inr ⟨by rfl, rfl⟩) hSE ?restE132
  try simp only [Act.put, List.setIfInBounds_toArray, List.set_cons_zero, List.set_cons_succ]
  refine takeH 11 (oi := ⟨some 158, _, _, _, _, _⟩) (v := undef) rfl (by kernel_rfl) (by kernel_rfl) (by kernel_rfl) (fun _ _ _ h => h) (Or.inr ⟨by rfl, rfl⟩) hSE ?restE133
  try simp only [Act.put, List.setIfInBounds_toArray, List.set_cons_zero, List.set_cons_succ]
  refine takeH 12 (oi := ⟨some 159, _, _, _, _, _⟩) (v := ?_) rfl (by kernel_rfl) (by kernel_rfl) (by kernel_rfl) (fun _ _ _ h => h) (Or.inl ⟨by rfl, ?hyE134⟩) hSE ?restE134
  case hyE134 => (intro W hW; (try dsimp only at hW); go_simp; try with_reducible rfl)
  try simp only [Act.put, List.setIfInBounds_toArray, List.set_cons_zero, List.set_cons_succ]
  refine takeH 13 (oi := ⟨some 160, _, _, _, _, _⟩) (v := ?_) rfl (by kernel_rfl) (by kernel_rfl) (by kernel_rfl) (fun _ _ _ h => h) (Or.inl ⟨by rfl, ?hyE135⟩) hSE ?restE135
  case hyE135 => (intro W hW; (try dsimp only at hW); go_simp; try with_reducible rfl)
  try simp only [Act.put, List.setIfInBounds_toArray, List.set_cons_zero, List.set_cons_succ]
  refine takeH 14 (oi := ⟨some 161, _, _, _, _, _⟩) (v := undef) rfl (by kernel_rfl) (by kernel_rfl) (by kernel_rfl) (fun _ _ _ h => h) (Or.inr ⟨by rfl, rfl⟩) hSE ?restE136
  try simp only [Act.put, List.setIfInBounds_toArray, List.set_cons_zero, List.set_cons_succ]
  refine takeH 15 (oi := ⟨some 162, _, _, _, _, _⟩) (v := undef) rfl (by kernel_rfl) (by kernel_rfl) (by kernel_rfl) (fun _ _ _ h => h) (Or.inr ⟨by rfl, rfl⟩) hSE ?restE137
  try simp only [Act.put, List.setIfInBounds_toArray, List.set_cons_zero, List.set_cons_succ]
  refine takeH 16 (oi := ⟨some 163, _, _, _, _, _⟩) (v := ?_) rfl (by kernel_rfl) (by kernel_rfl) (by kernel_rfl) (fun _ _ _ h => h) (Or.inl ⟨by rfl, ?hyE138⟩) hSE ?restE138
  case hyE138 => (intro W hW; (try dsimp only at hW); go_simp; try with_reducible rfl)
  try simp only [Act.put, List.setIfInBounds_toArray, List.set_cons_zero, List.set_cons_succ]
  refine takeH 17 (oi := ⟨some 164, _, _, _, _, _⟩) (v := ?_) rfl (by kernel_rfl) (by kernel_rfl) (by kernel_rfl) (fun _ _ _ h => h) (Or.inl ⟨by rfl, ?hyE139⟩) hSE ?restE139
  case hyE139 => (intro W hW; (try dsimp only at hW); go_simp; try with_reducible rfl)
  try simp only [Act.put, List.setIfInBounds_toArray, List.set_cons_zero, List.set_cons_succ]
  refine takeH 18 (oi := ⟨some 165, _, _, _, _, _⟩) (v := ?_) rfl (by kernel_rfl) (by kernel_rfl) (by kernel_rfl) (fun _ _ _ h => h) (Or.inl ⟨by rfl, ?hyE140⟩) hSE ?restE140
  case hyE140 => (intro W hW; (try dsimp only at hW); go_simp; try with_reducible rfl)
  try simp only [Act.put, List.setIfInBounds_toArray, List.set_cons_zero, List.set_cons_succ]
  refine takeH 19 (oi := ⟨some 166, _, _, _, _, _⟩) (v := ?_) rfl (by kernel_rfl) (by kernel_rfl) (by kernel_rfl) (fun _ _ _ h => h) (Or.inl ⟨by rfl, ?hyE141⟩) hSE ?restE141
  case hyE141 => (intro W hW; (try dsimp only at hW); go_simp; try with_reducible rfl)
  try simp only [Act.put, List.setIfInBounds_toArray, List.set_cons_zero, List.set_cons_succ]
  refine takeH 20 (oi := ⟨some 167, _, _, _, _, _⟩) (v := ?_) rfl (by kernel_rfl) (by kernel_rfl) (by kernel_rfl) (fun _ _ _ h => h) (Or.inl ⟨by rfl, ?hyE142⟩) hSE ?restE142
  case hyE142 => (intro W hW; (try dsimp only at hW); go_simp; try with_reducible rfl)
  try simp only [Act.put, List.setIfInBounds_toArray, List.set_cons_zero, List.set_cons_succ]
  refine takeH 21 (oi := ⟨some 168, _, _, _, _, _⟩) (v := ?_) rfl (by kernel_rfl) (by kernel_rfl) (by kernel_rfl) (fun _ _ _ h => h) (Or.inl ⟨by rfl, ?hyE143⟩) hSE ?restE143
  case hyE143 => (intro W hW; (try dsimp only at hW); go_simp; try with_reducible rfl)
  try simp only [Act.put, List.setIfInBounds_toArray, List.set_cons_zero, List.set_cons_succ]
  refine takeH 22 (oi := ⟨some 169, _, _, _, _, _⟩) (v := ?_) rfl (by kernel_rfl) (by kernel_rfl) (by kernel_rfl) (fun _ _ _ h => h) (Or.inl ⟨by rfl, ?hyE144⟩) hSE ?restE144
  case hyE144 => (intro W hW; (try dsimp only at hW); go_simp; try with_reducible rfl)
  try simp only [Act.put, List.setIfInBounds_toArray, List.set_cons_zero, List.set_cons_succ]
  refine takeH 23 (oi := ⟨some 170, _, _, _, _, _⟩) (v := ?_) rfl (by kernel_rfl) (by kernel_rfl) (by kernel_rfl) (fun _ _ _ h => h) (Or.inl ⟨by rfl, ?hyE145⟩) hSE ?restE145
  case hyE145 => (intro W hW; (try dsimp only at hW); go_simp; try with_reducible rfl)
  try simp only [Act.put, List.setIfInBounds_toArray, List.set_cons_zero, List.set_cons_succ]
  refine takeH 24 (oi := ⟨some 171, _, _, _, _, _⟩) (v := ?_) rfl (by kernel_rfl) (by kernel_rfl) (by kernel_rfl) (fun _ _ _ h => h) (Or.inl ⟨by rfl, ?hyE146⟩) hSE ?restE146
  case hyE146 => (intro W hW; (try dsimp only at hW); go_simp; try with_reducible rfl)
  try simp only [Act.put, List.setIfInBounds_toArray, List.set_cons_zero, List.set_cons_succ]
  refine one (i := 25) (by kernel_rfl) ?_
  refine wpOp_wanted rfl (by rfl) fun K hK => ?_
  go_simp
  with_reducible refine (hInt _ _).mono ?_
  rintro e wE147 ⟨rfl, hb⟩
  have SE147 : Below w5.heap.size w5 wE147 := hSE.trans (hb.mono hSE.size)
  clear hb
  refine hK _ _ ⟨SE147, ?_⟩
  clear hK K
  try simp only [Act.put, List.setIfInBounds_toArray, List.set_cons_zero, List.set_cons_succ]
  refine takeH 26 (oi := ⟨some 173, _, _, _, _, _⟩) (v := ?_) rfl (by kernel_rfl) (by kernel_rfl) (by kernel_rfl) (fun _ _ _ h => h) (Or.inl ⟨by rfl, ?hyE148⟩) SE147 ?restE148
  case hyE148 => (intro W hW; (try dsimp only at hW); go_simp; try with_reducible rfl)
  try simp only [Act.put, List.setIfInBounds_toArray, List.set_cons_zero, List.set_cons_succ]
  refine takeH 27 (oi := ⟨some 174, _, _, _, _, _⟩) (v := ?_) rfl (by kernel_rfl) (by kernel_rfl) (by kernel_rfl) (fun _ _ _ h => h) (Or.inl ⟨by rfl, ?hyE149⟩) SE147 ?restE149
  case hyE149 => (intro W hW; (try dsimp only at hW); go_simp; try with_reducible rfl)
  try simp only [Act.put, List.setIfInBounds_toArray, List.set_cons_zero, List.set_cons_succ]
  refine takeH 28 (oi := ⟨some 6, _, _, _, _, _⟩) (v := ?_) rfl (by kernel_rfl) (by kernel_rfl) (by kernel_rfl) (fun _ _ _ h => h) (Or.inl ⟨by rfl, ?hyE150⟩) SE147 ?restE150
  case hyE150 => (intro W hW; (try dsimp only at hW); go_simp; try with_reducible rfl)
  try simp only [Act.put, List.setIfInBounds_toArray, List.set_cons_zero, List.set_cons_succ]
  refine wpAnyH_done (by kernel_rfl) ?_ _
  clear naE0 naE1 naE2
  go_wp2_with fail
  go_ret
  exact ⟨rfl, (D17.out.on SE147).bel⟩
set_option maxHeartbeats 16000000 in
set_option maxRecDepth 20000 in
theorem nu14 (m op : Int) (k0 n0 : Int) (s0 : ByteArray) (k1 n1 : Int) (s1 : ByteArray) (x y : Int) (S T : ByteArray) (v1 v2 : Int) (v3 : ByteArray) (v4 : Int) (hg : ∀ b W, Blk W b 32 [.int .i64 k0, .int .i64 n0, .string s0, .int .i64 k1, .int .i64 n1, .string s1] → Calls Tryd.prog 44 #[.slice (some ⟨b, 0, none⟩) 2 2] W fun e w' => e = .returned (.bool false) ∧ Below W.heap.size W w') (hop : wrap64 (1 + (wrap64 m).tmod 10) = op) (hx : numberF k0 n0 s0 = some (x, true)) (hy : numberF k1 n1 s1 = some (y, true)) (d1 : doF op k0 n0 s0 k1 n1 s1 0 = some (v1, v2, v3, v4)) (d2 : doF op 2 x ⟨#[]⟩ 2 y ⟨#[]⟩ 0 = some (v1, v2, v3, v4)) (hs : stringF k0 n0 s0 = some (S, true)) (ht : stringF k1 n1 s1 = some (T, false)) (d3 : doF 11 k0 n0 s0 k1 n1 s1 ((S.size : Int) + (T.size : Int)) = some (0, 0, ⟨#[]⟩, 18)) (d4 : doF 11 k0 n0 s0 k1 n1 s1 ((S.size : Int) + (T.size : Int) - 1) = some (0, 0, ⟨#[]⟩, 18)) (o1 : oneF 23 3 0 S = some (2, (S.size : Int), ⟨#[]⟩, 0)) (hw1 : IntKind.i64.wrap ((S.size : Int) + (T.size : Int)) = (S.size : Int) + (T.size : Int)) (hw2 : IntKind.i64.wrap ((S.size : Int) + (T.size : Int) - 1) = (S.size : Int) + (T.size : Int) - 1) (hv1 : wrap64 ((S.size : Int) + (T.size : Int)) = (S.size : Int) + (T.size : Int)) (hv2 : wrap64 ((S.size : Int) + (T.size : Int) - 1) = (S.size : Int) + (T.size : Int) - 1) (hz2 : (9223372036854775807 < S.size + T.size) = False) (w : World) (hT : Tab w) : Calls Tryd.prog 10 #[.int .u8 m, .agg #[.int .i64 k0, .int .i64 n0, .string s0], .agg #[.int .i64 k1, .int .i64 n1, .string s1]] w fun e w' => e = .returned (.bool true) ∧ Below w.heap.size w w' := by
  have T0 := Lib.hid hT
  have D0 := Lib.hid (OD.start2 w 32 [.int .i64 k0, .int .i64 n0, .string s0] [.int .i64 k1, .int .i64 n1, .string s1])
  have AL := Lib.hid (fun W hW => alive_calls true W hW rfl)
  have GR := Lib.hid hg
  have NX := Lib.hid (fun W hW => number_calls k0 n0 s0 x true W hW hx)
  have NY := Lib.hid (fun W hW => number_calls k1 n1 s1 y true W hW hy)
  have E1 := Lib.hid (fun W hW => do_calls op k0 n0 s0 k1 n1 s1 0 (v1) (v2) (v3) (v4) W hW d1)
  have E2 := Lib.hid (fun W hW => do_calls op 2 x ⟨#[]⟩ 2 y ⟨#[]⟩ 0 (v1) (v2) (v3) (v4) W hW d2)
  have SX := Lib.hid (fun W hW => string_calls k0 n0 s0 S true W hW hs)
  have SY := Lib.hid (fun W hW => string_calls k1 n1 s1 T false W hW ht)
  have E3 := Lib.hid (fun W hW => do_calls 11 k0 n0 s0 k1 n1 s1 ((S.size : Int) + (T.size : Int)) (0) (0) (⟨#[]⟩) (18) W hW d3)
  have E4 := Lib.hid (fun W hW => do_calls 11 k0 n0 s0 k1 n1 s1 ((S.size : Int) + (T.size : Int) - 1) (0) (0) (⟨#[]⟩) (18) W hW d4)
  have ON := Lib.hid (fun W hW => one_calls 23 3 0 S 2 (S.size : Int) ⟨#[]⟩ 0 W hW o1)
  clear hT hg hx hy d1 d2 hs ht d3 d4 o1
  go_enter Tryd.func10, Tryd.ntmps10
  go_upto_region 15 with (first | (go_at_call 43; go_loud (with_reducible refine (AL.out _ (T0.out.on D0.out.bel)).mono ?_; rintro e wn1 ⟨rfl, hb⟩; have D1 := Lib.hid ((D0.out).on hb); clear hb; have u0 := (D1.out.blk _ (List.mem_cons_self)).2.cell 0 _ rfl; have uz0 := (D1.out.blk _ (List.mem_cons_self)).2.frozen 0; have u1 := (D1.out.blk _ (List.mem_cons_self)).2.cell 1 _ rfl; have uz1 := (D1.out.blk _ (List.mem_cons_self)).2.frozen 1; have u2 := (D1.out.blk _ (List.mem_cons_self)).2.cell 2 _ rfl; have uz2 := (D1.out.blk _ (List.mem_cons_self)).2.frozen 2; have ult := (D1.out).bl (List.mem_cons_self); have q0 := (D1.out.blk _ (List.mem_cons_of_mem _ (List.mem_cons_self))).2.cell 0 _ rfl; have qz0 := (D1.out.blk _ (List.mem_cons_of_mem _ (List.mem_cons_self))).2.frozen 0; have q1 := (D1.out.blk _ (List.mem_cons_of_mem _ (List.mem_cons_self))).2.cell 1 _ rfl; have qz1 := (D1.out.blk _ (List.mem_cons_of_mem _ (List.mem_cons_self))).2.frozen 1; have q2 := (D1.out.blk _ (List.mem_cons_of_mem _ (List.mem_cons_self))).2.cell 2 _ rfl; have qz2 := (D1.out.blk _ (List.mem_cons_of_mem _ (List.mem_cons_self))).2.frozen 2; have qlt := (D1.out).bl (List.mem_cons_of_mem _ (List.mem_cons_self)))) | (go_at_call 44; go_loud (with_reducible refine (GR.out _ _ (Blk.new _ [.int .i64 k0, .int .i64 n0, .string s0, .int .i64 k1, .int .i64 n1, .string s1] 32)).mono ?_; rintro e wn2 ⟨rfl, hb⟩; have D2 := Lib.hid ((D1.out.new 32 [.int .i64 k0, .int .i64 n0, .string s0, .int .i64 k1, .int .i64 n1, .string s1]).on hb); clear hb; have u0 := (D2.out.blk _ (List.mem_cons_of_mem _ (List.mem_cons_self))).2.cell 0 _ rfl; have uz0 := (D2.out.blk _ (List.mem_cons_of_mem _ (List.mem_cons_self))).2.frozen 0; have u1 := (D2.out.blk _ (List.mem_cons_of_mem _ (List.mem_cons_self))).2.cell 1 _ rfl; have uz1 := (D2.out.blk _ (List.mem_cons_of_mem _ (List.mem_cons_self))).2.frozen 1; have u2 := (D2.out.blk _ (List.mem_cons_of_mem _ (List.mem_cons_self))).2.cell 2 _ rfl; have uz2 := (D2.out.blk _ (List.mem_cons_of_mem _ (List.mem_cons_self))).2.frozen 2; have ult := (D2.out).bl (List.mem_cons_of_mem _ (List.mem_cons_self)); have q0 := (D2.out.blk _ (List.mem_cons_of_mem _ (List.mem_cons_of_mem _ (List.mem_cons_self)))).2.cell 0 _ rfl; have qz0 := (D2.out.blk _ (List.mem_cons_of_mem _ (List.mem_cons_of_mem _ (List.mem_cons_self)))).2.frozen 0; have q1 := (D2.out.blk _ (List.mem_cons_of_mem _ (List.mem_cons_of_mem _ (List.mem_cons_self)))).2.cell 1 _ rfl; have qz1 := (D2.out.blk _ (List.mem_cons_of_mem _ (List.mem_cons_of_mem _ (List.mem_cons_self)))).2.frozen 1; have q2 := (D2.out.blk _ (List.mem_cons_of_mem _ (List.mem_cons_of_mem _ (List.mem_cons_self)))).2.cell 2 _ rfl; have qz2 := (D2.out.blk _ (List.mem_cons_of_mem _ (List.mem_cons_of_mem _ (List.mem_cons_self)))).2.frozen 2; have qlt := (D2.out).bl (List.mem_cons_of_mem _ (List.mem_cons_of_mem _ (List.mem_cons_self))))) | (go_at_call 52; go_loud (with_reducible refine (NX.out _ (T0.out.on (D2.out).bel)).mono ?_; rintro e wn3 ⟨rfl, hb⟩; have D3 := Lib.hid ((D2.out).on hb); clear hb; have u0 := (D3.out.blk _ (List.mem_cons_of_mem _ (List.mem_cons_self))).2.cell 0 _ rfl; have uz0 := (D3.out.blk _ (List.mem_cons_of_mem _ (List.mem_cons_self))).2.frozen 0; have u1 := (D3.out.blk _ (List.mem_cons_of_mem _ (List.mem_cons_self))).2.cell 1 _ rfl; have uz1 := (D3.out.blk _ (List.mem_cons_of_mem _ (List.mem_cons_self))).2.frozen 1; have u2 := (D3.out.blk _ (List.mem_cons_of_mem _ (List.mem_cons_self))).2.cell 2 _ rfl; have uz2 := (D3.out.blk _ (List.mem_cons_of_mem _ (List.mem_cons_self))).2.frozen 2; have ult := (D3.out).bl (List.mem_cons_of_mem _ (List.mem_cons_self)); have q0 := (D3.out.blk _ (List.mem_cons_of_mem _ (List.mem_cons_of_mem _ (List.mem_cons_self)))).2.cell 0 _ rfl; have qz0 := (D3.out.blk _ (List.mem_cons_of_mem _ (List.mem_cons_of_mem _ (List.mem_cons_self)))).2.frozen 0; have q1 := (D3.out.blk _ (List.mem_cons_of_mem _ (List.mem_cons_of_mem _ (List.mem_cons_self)))).2.cell 1 _ rfl; have qz1 := (D3.out.blk _ (List.mem_cons_of_mem _ (List.mem_cons_of_mem _ (List.mem_cons_self)))).2.frozen 1; have q2 := (D3.out.blk _ (List.mem_cons_of_mem _ (List.mem_cons_of_mem _ (List.mem_cons_self)))).2.cell 2 _ rfl; have qz2 := (D3.out.blk _ (List.mem_cons_of_mem _ (List.mem_cons_of_mem _ (List.mem_cons_self)))).2.frozen 2; have qlt := (D3.out).bl (List.mem_cons_of_mem _ (List.mem_cons_of_mem _ (List.mem_cons_self))))) | (go_at_call 52; go_loud (with_reducible refine (NY.out _ (T0.out.on (D3.out).bel)).mono ?_; rintro e wn4 ⟨rfl, hb⟩; have D4 := Lib.hid ((D3.out).on hb); clear hb; have u0 := (D4.out.blk _ (List.mem_cons_of_mem _ (List.mem_cons_self))).2.cell 0 _ rfl; have uz0 := (D4.out.blk _ (List.mem_cons_of_mem _ (List.mem_cons_self))).2.frozen 0; have u1 := (D4.out.blk _ (List.mem_cons_of_mem _ (List.mem_cons_self))).2.cell 1 _ rfl; have uz1 := (D4.out.blk _ (List.mem_cons_of_mem _ (List.mem_cons_self))).2.frozen 1; have u2 := (D4.out.blk _ (List.mem_cons_of_mem _ (List.mem_cons_self))).2.cell 2 _ rfl; have uz2 := (D4.out.blk _ (List.mem_cons_of_mem _ (List.mem_cons_self))).2.frozen 2; have ult := (D4.out).bl (List.mem_cons_of_mem _ (List.mem_cons_self)); have q0 := (D4.out.blk _ (List.mem_cons_of_mem _ (List.mem_cons_of_mem _ (List.mem_cons_self)))).2.cell 0 _ rfl; have qz0 := (D4.out.blk _ (List.mem_cons_of_mem _ (List.mem_cons_of_mem _ (List.mem_cons_self)))).2.frozen 0; have q1 := (D4.out.blk _ (List.mem_cons_of_mem _ (List.mem_cons_of_mem _ (List.mem_cons_self)))).2.cell 1 _ rfl; have qz1 := (D4.out.blk _ (List.mem_cons_of_mem _ (List.mem_cons_of_mem _ (List.mem_cons_self)))).2.frozen 1; have q2 := (D4.out.blk _ (List.mem_cons_of_mem _ (List.mem_cons_of_mem _ (List.mem_cons_self)))).2.cell 2 _ rfl; have qz2 := (D4.out.blk _ (List.mem_cons_of_mem _ (List.mem_cons_of_mem _ (List.mem_cons_self)))).2.frozen 2; have qlt := (D4.out).bl (List.mem_cons_of_mem _ (List.mem_cons_of_mem _ (List.mem_cons_self))))) | (go_at_call 46; go_loud (with_reducible refine (E1.out _ (T0.out.on (D4.out).bel)).mono ?_; rintro e wn5 ⟨rfl, hb⟩; have D5 := Lib.hid ((D4.out).on hb); clear hb)) | (go_at_call 53; go_loud (with_reducible refine (hInt x _).mono ?_; rintro e wn6 ⟨rfl, hb⟩; have D6 := Lib.hid ((D5.out.new 32 [.int .i64 v1, .int .i64 v2, .string v3]).on hb); clear hb)) | (go_at_call 53; go_loud (with_reducible refine (hInt y _).mono ?_; rintro e wn7 ⟨rfl, hb⟩; have D7 := Lib.hid ((D6.out).on hb); clear hb)) | (go_at_call 46; go_loud (with_reducible refine (E2.out _ (T0.out.on (D7.out).bel)).mono ?_; rintro e wn8 ⟨rfl, hb⟩; have D8 := Lib.hid ((D7.out).on hb); clear hb; have r0 := (D8.out.blk _ (List.mem_cons_self)).2.cell 0 _ rfl; have rz0 := (D8.out.blk _ (List.mem_cons_self)).2.frozen 0; have r1 := (D8.out.blk _ (List.mem_cons_self)).2.cell 1 _ rfl; have rz1 := (D8.out.blk _ (List.mem_cons_self)).2.frozen 1; have r2 := (D8.out.blk _ (List.mem_cons_self)).2.cell 2 _ rfl; have rz2 := (D8.out.blk _ (List.mem_cons_self)).2.frozen 2; have rlt := (D8.out).bl (List.mem_cons_self); have u0 := (D8.out.blk _ (List.mem_cons_of_mem _ (List.mem_cons_of_mem _ (List.mem_cons_self)))).2.cell 0 _ rfl; have uz0 := (D8.out.blk _ (List.mem_cons_of_mem _ (List.mem_cons_of_mem _ (List.mem_cons_self)))).2.frozen 0; have u1 := (D8.out.blk _ (List.mem_cons_of_mem _ (List.mem_cons_of_mem _ (List.mem_cons_self)))).2.cell 1 _ rfl; have uz1 := (D8.out.blk _ (List.mem_cons_of_mem _ (List.mem_cons_of_mem _ (List.mem_cons_self)))).2.frozen 1; have u2 := (D8.out.blk _ (List.mem_cons_of_mem _ (List.mem_cons_of_mem _ (List.mem_cons_self)))).2.cell 2 _ rfl; have uz2 := (D8.out.blk _ (List.mem_cons_of_mem _ (List.mem_cons_of_mem _ (List.mem_cons_self)))).2.frozen 2; have ult := (D8.out).bl (List.mem_cons_of_mem _ (List.mem_cons_of_mem _ (List.mem_cons_self))); have q0 := (D8.out.blk _ (List.mem_cons_of_mem _ (List.mem_cons_of_mem _ (List.mem_cons_of_mem _ (List.mem_cons_self))))).2.cell 0 _ rfl; have qz0 := (D8.out.blk _ (List.mem_cons_of_mem _ (List.mem_cons_of_mem _ (List.mem_cons_of_mem _ (List.mem_cons_self))))).2.frozen 0; have q1 := (D8.out.blk _ (List.mem_cons_of_mem _ (List.mem_cons_of_mem _ (List.mem_cons_of_mem _ (List.mem_cons_self))))).2.cell 1 _ rfl; have qz1 := (D8.out.blk _ (List.mem_cons_of_mem _ (List.mem_cons_of_mem _ (List.mem_cons_of_mem _ (List.mem_cons_self))))).2.frozen 1; have q2 := (D8.out.blk _ (List.mem_cons_of_mem _ (List.mem_cons_of_mem _ (List.mem_cons_of_mem _ (List.mem_cons_self))))).2.cell 2 _ rfl; have qz2 := (D8.out.blk _ (List.mem_cons_of_mem _ (List.mem_cons_of_mem _ (List.mem_cons_of_mem _ (List.mem_cons_self))))).2.frozen 2; have qlt := (D8.out).bl (List.mem_cons_of_mem _ (List.mem_cons_of_mem _ (List.mem_cons_of_mem _ (List.mem_cons_self)))))) | (go_at_call 54; go_loud (with_reducible refine (SX.out _ (T0.out.on (D8.out.new 32 [.int .i64 v1, .int .i64 v2, .string v3]).bel)).mono ?_; rintro e wn9 ⟨rfl, hb⟩; have D9 := Lib.hid ((D8.out.new 32 [.int .i64 v1, .int .i64 v2, .string v3]).on hb); clear hb; have u0 := (D9.out.blk _ (List.mem_cons_of_mem _ (List.mem_cons_of_mem _ (List.mem_cons_of_mem _ (List.mem_cons_self))))).2.cell 0 _ rfl; have uz0 := (D9.out.blk _ (List.mem_cons_of_mem _ (List.mem_cons_of_mem _ (List.mem_cons_of_mem _ (List.mem_cons_self))))).2.frozen 0; have u1 := (D9.out.blk _ (List.mem_cons_of_mem _ (List.mem_cons_of_mem _ (List.mem_cons_of_mem _ (List.mem_cons_self))))).2.cell 1 _ rfl; have uz1 := (D9.out.blk _ (List.mem_cons_of_mem _ (List.mem_cons_of_mem _ (List.mem_cons_of_mem _ (List.mem_cons_self))))).2.frozen 1; have u2 := (D9.out.blk _ (List.mem_cons_of_mem _ (List.mem_cons_of_mem _ (List.mem_cons_of_mem _ (List.mem_cons_self))))).2.cell 2 _ rfl; have uz2 := (D9.out.blk _ (List.mem_cons_of_mem _ (List.mem_cons_of_mem _ (List.mem_cons_of_mem _ (List.mem_cons_self))))).2.frozen 2; have ult := (D9.out).bl (List.mem_cons_of_mem _ (List.mem_cons_of_mem _ (List.mem_cons_of_mem _ (List.mem_cons_self)))); have q0 := (D9.out.blk _ (List.mem_cons_of_mem _ (List.mem_cons_of_mem _ (List.mem_cons_of_mem _ (List.mem_cons_of_mem _ (List.mem_cons_self)))))).2.cell 0 _ rfl; have qz0 := (D9.out.blk _ (List.mem_cons_of_mem _ (List.mem_cons_of_mem _ (List.mem_cons_of_mem _ (List.mem_cons_of_mem _ (List.mem_cons_self)))))).2.frozen 0; have q1 := (D9.out.blk _ (List.mem_cons_of_mem _ (List.mem_cons_of_mem _ (List.mem_cons_of_mem _ (List.mem_cons_of_mem _ (List.mem_cons_self)))))).2.cell 1 _ rfl; have qz1 := (D9.out.blk _ (List.mem_cons_of_mem _ (List.mem_cons_of_mem _ (List.mem_cons_of_mem _ (List.mem_cons_of_mem _ (List.mem_cons_self)))))).2.frozen 1; have q2 := (D9.out.blk _ (List.mem_cons_of_mem _ (List.mem_cons_of_mem _ (List.mem_cons_of_mem _ (List.mem_cons_of_mem _ (List.mem_cons_self)))))).2.cell 2 _ rfl; have qz2 := (D9.out.blk _ (List.mem_cons_of_mem _ (List.mem_cons_of_mem _ (List.mem_cons_of_mem _ (List.mem_cons_of_mem _ (List.mem_cons_self)))))).2.frozen 2; have qlt := (D9.out).bl (List.mem_cons_of_mem _ (List.mem_cons_of_mem _ (List.mem_cons_of_mem _ (List.mem_cons_of_mem _ (List.mem_cons_self))))))) | (go_at_call 54; go_loud (with_reducible refine (SY.out _ (T0.out.on (D9.out).bel)).mono ?_; rintro e wn10 ⟨rfl, hb⟩; have D10 := Lib.hid ((D9.out).on hb); clear hb; have u0 := (D10.out.blk _ (List.mem_cons_of_mem _ (List.mem_cons_of_mem _ (List.mem_cons_of_mem _ (List.mem_cons_self))))).2.cell 0 _ rfl; have uz0 := (D10.out.blk _ (List.mem_cons_of_mem _ (List.mem_cons_of_mem _ (List.mem_cons_of_mem _ (List.mem_cons_self))))).2.frozen 0; have u1 := (D10.out.blk _ (List.mem_cons_of_mem _ (List.mem_cons_of_mem _ (List.mem_cons_of_mem _ (List.mem_cons_self))))).2.cell 1 _ rfl; have uz1 := (D10.out.blk _ (List.mem_cons_of_mem _ (List.mem_cons_of_mem _ (List.mem_cons_of_mem _ (List.mem_cons_self))))).2.frozen 1; have u2 := (D10.out.blk _ (List.mem_cons_of_mem _ (List.mem_cons_of_mem _ (List.mem_cons_of_mem _ (List.mem_cons_self))))).2.cell 2 _ rfl; have uz2 := (D10.out.blk _ (List.mem_cons_of_mem _ (List.mem_cons_of_mem _ (List.mem_cons_of_mem _ (List.mem_cons_self))))).2.frozen 2; have ult := (D10.out).bl (List.mem_cons_of_mem _ (List.mem_cons_of_mem _ (List.mem_cons_of_mem _ (List.mem_cons_self)))); have q0 := (D10.out.blk _ (List.mem_cons_of_mem _ (List.mem_cons_of_mem _ (List.mem_cons_of_mem _ (List.mem_cons_of_mem _ (List.mem_cons_self)))))).2.cell 0 _ rfl; have qz0 := (D10.out.blk _ (List.mem_cons_of_mem _ (List.mem_cons_of_mem _ (List.mem_cons_of_mem _ (List.mem_cons_of_mem _ (List.mem_cons_self)))))).2.frozen 0; have q1 := (D10.out.blk _ (List.mem_cons_of_mem _ (List.mem_cons_of_mem _ (List.mem_cons_of_mem _ (List.mem_cons_of_mem _ (List.mem_cons_self)))))).2.cell 1 _ rfl; have qz1 := (D10.out.blk _ (List.mem_cons_of_mem _ (List.mem_cons_of_mem _ (List.mem_cons_of_mem _ (List.mem_cons_of_mem _ (List.mem_cons_self)))))).2.frozen 1; have q2 := (D10.out.blk _ (List.mem_cons_of_mem _ (List.mem_cons_of_mem _ (List.mem_cons_of_mem _ (List.mem_cons_of_mem _ (List.mem_cons_self)))))).2.cell 2 _ rfl; have qz2 := (D10.out.blk _ (List.mem_cons_of_mem _ (List.mem_cons_of_mem _ (List.mem_cons_of_mem _ (List.mem_cons_of_mem _ (List.mem_cons_self)))))).2.frozen 2; have qlt := (D10.out).bl (List.mem_cons_of_mem _ (List.mem_cons_of_mem _ (List.mem_cons_of_mem _ (List.mem_cons_of_mem _ (List.mem_cons_self))))))) | (go_at_call 46; go_loud (with_reducible refine (E3.out _ (T0.out.on (D10.out).bel)).mono ?_; rintro e wn11 ⟨rfl, hb⟩; have D11 := Lib.hid ((D10.out).on hb); clear hb)))
  have hu := Tryd.underlying32
  have D12 := Lib.hid (D11.out.new 32 [.int .i64 0, .int .i64 0, .string ⟨#[]⟩])
  obtain ⟨w1, hw1⟩ : ∃ z, z = wn11.alloc (.cells #[.int .i64 0, .int .i64 0, .string ⟨#[]⟩] 32) := ⟨_, rfl⟩
  obtain ⟨x20, hx20⟩ : ∃ z, z = wn11.heap.size := ⟨_, rfl⟩
  rw [← hw1] at D12
  rw [← hx20] at D12
  simp only [← hw1, ← hx20]
  clear hw1 hx20
  have hBB : Below w1.heap.size w1 ({ w1 with drawn := w1.drawn + 1 } : World) := ⟨rfl, rfl, rfl, Nat.le_refl _, fun _ _ => rfl⟩
  refine wp_region_held (S := Below w1.heap.size w1) (by kernel_rfl) ?_
  have hSB := hBB
  generalize ({ w1 with drawn := w1.drawn + 1 } : World) = wB at hSB hBB ⊢
  have hleB := D12.out.bel.size
  have hslB := hSB.size
  have caB0 : ∀ W, Below w1.heap.size w1 W → W.cell? ⟨x20, 0, none⟩ = some (.int .i64 0) := fun W hW => ((D12.out.on hW).blk _ (List.mem_cons_self)).2.cell 0 _ rfl
  have caB1 : ∀ W, Below w1.heap.size w1 W → W.cell? ⟨x20, 1, none⟩ = some (.int .i64 0) := fun W hW => ((D12.out.on hW).blk _ (List.mem_cons_self)).2.cell 1 _ rfl
  have caB2 : ∀ W, Below w1.heap.size w1 W → W.cell? ⟨x20, 2, none⟩ = some (.string ⟨#[]⟩) := fun W hW => ((D12.out.on hW).blk _ (List.mem_cons_self)).2.cell 2 _ rfl
  refine takeH 0 (oi := ⟨some 108, _, _, _, _, _⟩) (v := ?_) rfl (by kernel_rfl) (by kernel_rfl) (by kernel_rfl) (fun _ _ _ h => h) (Or.inl ⟨by rfl, ?hyB151⟩) hSB ?restB151
  case hyB151 => (intro W hW; (try dsimp only at hW); go_simp; try with_reducible rfl)
  try simp only [Act.put, List.setIfInBounds_toArray, List.set_cons_zero, List.set_cons_succ]
  refine takeH 1 (oi := ⟨some 109, _, _, _, _, _⟩) (v := ?_) rfl (by kernel_rfl) (by kernel_rfl) (by kernel_rfl) (fun _ _ _ h => h) (Or.inl ⟨by rfl, ?hyB152⟩) hSB ?restB152
  case hyB152 => (intro W hW; (try dsimp only at hW); go_simp; try with_reducible rfl)
  try simp only [Act.put, List.setIfInBounds_toArray, List.set_cons_zero, List.set_cons_succ]
  refine takeH 2 (oi := ⟨some 110, _, _, _, _, _⟩) (v := ?_) rfl (by kernel_rfl) (by kernel_rfl) (by kernel_rfl) (fun _ _ _ h => h) (Or.inl ⟨by rfl, ?hyB153⟩) hSB ?restB153
  case hyB153 => (intro W hW; (try dsimp only at hW); go_simp; try with_reducible rfl)
  try simp only [Act.put, List.setIfInBounds_toArray, List.set_cons_zero, List.set_cons_succ]
  refine takeH 3 (oi := ⟨some 111, _, _, _, _, _⟩) (v := ?_) rfl (by kernel_rfl) (by kernel_rfl) (by kernel_rfl) (fun _ _ _ h => h) (Or.inl ⟨by rfl, ?hyB154⟩) hSB ?restB154
  case hyB154 => (intro W hW; (try dsimp only at hW); go_simp; try with_reducible rfl)
  try simp only [Act.put, List.setIfInBounds_toArray, List.set_cons_zero, List.set_cons_succ]
  refine takeH 4 (oi := ⟨some 112, _, _, _, _, _⟩) (v := ?_) rfl (by kernel_rfl) (by kernel_rfl) (by kernel_rfl) (fun _ _ _ h => h) (Or.inl ⟨by rfl, ?hyB155⟩) hSB ?restB155
  case hyB155 => (intro W hW; (try dsimp only at hW); go_simp; try with_reducible rfl)
  try simp only [Act.put, List.setIfInBounds_toArray, List.set_cons_zero, List.set_cons_succ]
  refine takeH 5 (oi := ⟨some 113, _, _, _, _, _⟩) (v := ?_) rfl (by kernel_rfl) (by kernel_rfl) (by kernel_rfl) (fun _ _ _ h => h) (Or.inl ⟨by rfl, ?hyB156⟩) hSB ?restB156
  case hyB156 => (intro W hW; (try dsimp only at hW); go_simp; try with_reducible rfl)
  try simp only [Act.put, List.setIfInBounds_toArray, List.set_cons_zero, List.set_cons_succ]
  refine takeH 6 (oi := ⟨some 114, _, _, _, _, _⟩) (v := ?_) rfl (by kernel_rfl) (by kernel_rfl) (by kernel_rfl) (fun _ _ _ h => h) (Or.inl ⟨by rfl, ?hyB157⟩) hSB ?restB157
  case hyB157 => (intro W hW; (try dsimp only at hW); go_simp; try with_reducible rfl)
  try simp only [Act.put, List.setIfInBounds_toArray, List.set_cons_zero, List.set_cons_succ]
  refine takeH 7 (oi := ⟨some 115, _, _, _, _, _⟩) (v := ?_) rfl (by kernel_rfl) (by kernel_rfl) (by kernel_rfl) (fun _ _ _ h => h) (Or.inl ⟨by rfl, ?hyB158⟩) hSB ?restB158
  case hyB158 => (intro W hW; (try dsimp only at hW); go_simp; try with_reducible rfl)
  try simp only [Act.put, List.setIfInBounds_toArray, List.set_cons_zero, List.set_cons_succ]
  refine takeH 8 (oi := ⟨some 116, _, _, _, _, _⟩) (v := ?_) rfl (by kernel_rfl) (by kernel_rfl) (by kernel_rfl) (fun _ _ _ h => h) (Or.inl ⟨by rfl, ?hyB159⟩) hSB ?restB159
  case hyB159 => (intro W hW; (try dsimp only at hW); go_simp; try with_reducible rfl)
  try simp only [Act.put, List.setIfInBounds_toArray, List.set_cons_zero, List.set_cons_succ]
  refine takeH 9 (oi := ⟨some 117, _, _, _, _, _⟩) (v := ?_) rfl (by kernel_rfl) (by kernel_rfl) (by kernel_rfl) (fun _ _ _ h => h) (Or.inl ⟨by rfl, ?hyB160⟩) hSB ?restB160
  case hyB160 => (intro W hW; (try dsimp only at hW); go_simp; try with_reducible rfl)
  try simp only [Act.put, List.setIfInBounds_toArray, List.set_cons_zero, List.set_cons_succ]
  refine takeH 10 (oi := ⟨some 118, _, _, _, _, _⟩) (v := ?_) rfl (by kernel_rfl) (by kernel_rfl) (by kernel_rfl) (fun _ _ _ h => h) (Or.inl ⟨by rfl, ?hyB161⟩) hSB ?restB161
  case hyB161 => (intro W hW; (try dsimp only at hW); go_simp; try with_reducible rfl)
  try simp only [Act.put, List.setIfInBounds_toArray, List.set_cons_zero, List.set_cons_succ]
  refine takeH 11 (oi := ⟨some 119, _, _, _, _, _⟩) (v := ?_) rfl (by kernel_rfl) (by kernel_rfl) (by kernel_rfl) (fun _ _ _ h => h) (Or.inl ⟨by rfl, ?hyB162⟩) hSB ?restB162
  case hyB162 => (intro W hW; (try dsimp only at hW); go_simp; try with_reducible rfl)
  try simp only [Act.put, List.setIfInBounds_toArray, List.set_cons_zero, List.set_cons_succ]
  refine takeH 12 (oi := ⟨some 120, _, _, _, _, _⟩) (v := ?_) rfl (by kernel_rfl) (by kernel_rfl) (by kernel_rfl) (fun _ _ _ h => h) (Or.inl ⟨by rfl, ?hyB163⟩) hSB ?restB163
  case hyB163 => (intro W hW; (try dsimp only at hW); go_simp; try with_reducible rfl)
  try simp only [Act.put, List.setIfInBounds_toArray, List.set_cons_zero, List.set_cons_succ]
  refine takeH 13 (oi := ⟨some 121, _, _, _, _, _⟩) (v := undef) rfl (by kernel_rfl) (by kernel_rfl) (by kernel_rfl) (fun _ _ _ h => h) (Or.inr ⟨by rfl, rfl⟩) hSB ?restB164
  try simp only [Act.put, List.setIfInBounds_toArray, List.set_cons_zero, List.set_cons_succ]
  refine takeH 14 (oi := ⟨some 122, _, _, _, _, _⟩) (v := undef) rfl (by kernel_rfl) (by kernel_rfl) (by kernel_rfl) (fun _ _ _ h => h) (Or.inr ⟨by rfl, rfl⟩) hSB ?restB165
  try simp only [Act.put, List.setIfInBounds_toArray, List.set_cons_zero, List.set_cons_succ]
  refine takeH 15 (oi := ⟨some 123, _, _, _, _, _⟩) (v := undef) rfl (by kernel_rfl) (by kernel_rfl) (by kernel_rfl) (fun _ _ _ h => h) (Or.inr ⟨by rfl, rfl⟩) hSB ?restB166
  try simp only [Act.put, List.setIfInBounds_toArray, List.set_cons_zero, List.set_cons_succ]
  refine takeH 16 (oi := ⟨some 124, _, _, _, _, _⟩) (v := undef) rfl (by kernel_rfl) (by kernel_rfl) (by kernel_rfl) (fun _ _ _ h => h) (Or.inr ⟨by rfl, rfl⟩) hSB ?restB167
  try simp only [Act.put, List.setIfInBounds_toArray, List.set_cons_zero, List.set_cons_succ]
  refine takeH 17 (oi := ⟨some 125, _, _, _, _, _⟩) (v := undef) rfl (by kernel_rfl) (by kernel_rfl) (by kernel_rfl) (fun _ _ _ h => h) (Or.inr ⟨by rfl, rfl⟩) hSB ?restB168
  try simp only [Act.put, List.setIfInBounds_toArray, List.set_cons_zero, List.set_cons_succ]
  refine takeH 18 (oi := ⟨some 126, _, _, _, _, _⟩) (v := undef) rfl (by kernel_rfl) (by kernel_rfl) (by kernel_rfl) (fun _ _ _ h => h) (Or.inr ⟨by rfl, rfl⟩) hSB ?restB169
  try simp only [Act.put, List.setIfInBounds_toArray, List.set_cons_zero, List.set_cons_succ]
  refine takeH 19 (oi := ⟨some 127, _, _, _, _, _⟩) (v := ?_) rfl (by kernel_rfl) (by kernel_rfl) (by kernel_rfl) (fun _ _ _ h => h) (Or.inl ⟨by rfl, ?hyB170⟩) hSB ?restB170
  case hyB170 => (intro W hW; (try dsimp only at hW); go_simp; try with_reducible rfl)
  try simp only [Act.put, List.setIfInBounds_toArray, List.set_cons_zero, List.set_cons_succ]
  refine takeH 20 (oi := ⟨some 128, _, _, _, _, _⟩) (v := ?_) rfl (by kernel_rfl) (by kernel_rfl) (by kernel_rfl) (fun _ _ _ h => h) (Or.inl ⟨by rfl, ?hyB171⟩) hSB ?restB171
  case hyB171 => (intro W hW; (try dsimp only at hW); go_simp; try with_reducible rfl)
  try simp only [Act.put, List.setIfInBounds_toArray, List.set_cons_zero, List.set_cons_succ]
  refine wpAnyH_done (by kernel_rfl) ?_ _
  clear caB0 caB1 caB2
  have D13 := Lib.hid (D12.out.on hSB)
  generalize wB = W4 at D13 ⊢
  have u0 := (D13.out.blk _ (List.mem_cons_of_mem _ (List.mem_cons_of_mem _ (List.mem_cons_of_mem _ (List.mem_cons_of_mem _ (List.mem_cons_self)))))).2.cell 0 _ rfl; have uz0 := (D13.out.blk _ (List.mem_cons_of_mem _ (List.mem_cons_of_mem _ (List.mem_cons_of_mem _ (List.mem_cons_of_mem _ (List.mem_cons_self)))))).2.frozen 0; have u1 := (D13.out.blk _ (List.mem_cons_of_mem _ (List.mem_cons_of_mem _ (List.mem_cons_of_mem _ (List.mem_cons_of_mem _ (List.mem_cons_self)))))).2.cell 1 _ rfl; have uz1 := (D13.out.blk _ (List.mem_cons_of_mem _ (List.mem_cons_of_mem _ (List.mem_cons_of_mem _ (List.mem_cons_of_mem _ (List.mem_cons_self)))))).2.frozen 1; have u2 := (D13.out.blk _ (List.mem_cons_of_mem _ (List.mem_cons_of_mem _ (List.mem_cons_of_mem _ (List.mem_cons_of_mem _ (List.mem_cons_self)))))).2.cell 2 _ rfl; have uz2 := (D13.out.blk _ (List.mem_cons_of_mem _ (List.mem_cons_of_mem _ (List.mem_cons_of_mem _ (List.mem_cons_of_mem _ (List.mem_cons_self)))))).2.frozen 2; have ult := (D13.out).bl (List.mem_cons_of_mem _ (List.mem_cons_of_mem _ (List.mem_cons_of_mem _ (List.mem_cons_of_mem _ (List.mem_cons_self))))); have q0 := (D13.out.blk _ (List.mem_cons_of_mem _ (List.mem_cons_of_mem _ (List.mem_cons_of_mem _ (List.mem_cons_of_mem _ (List.mem_cons_of_mem _ (List.mem_cons_self))))))).2.cell 0 _ rfl; have qz0 := (D13.out.blk _ (List.mem_cons_of_mem _ (List.mem_cons_of_mem _ (List.mem_cons_of_mem _ (List.mem_cons_of_mem _ (List.mem_cons_of_mem _ (List.mem_cons_self))))))).2.frozen 0; have q1 := (D13.out.blk _ (List.mem_cons_of_mem _ (List.mem_cons_of_mem _ (List.mem_cons_of_mem _ (List.mem_cons_of_mem _ (List.mem_cons_of_mem _ (List.mem_cons_self))))))).2.cell 1 _ rfl; have qz1 := (D13.out.blk _ (List.mem_cons_of_mem _ (List.mem_cons_of_mem _ (List.mem_cons_of_mem _ (List.mem_cons_of_mem _ (List.mem_cons_of_mem _ (List.mem_cons_self))))))).2.frozen 1; have q2 := (D13.out.blk _ (List.mem_cons_of_mem _ (List.mem_cons_of_mem _ (List.mem_cons_of_mem _ (List.mem_cons_of_mem _ (List.mem_cons_of_mem _ (List.mem_cons_self))))))).2.cell 2 _ rfl; have qz2 := (D13.out.blk _ (List.mem_cons_of_mem _ (List.mem_cons_of_mem _ (List.mem_cons_of_mem _ (List.mem_cons_of_mem _ (List.mem_cons_of_mem _ (List.mem_cons_self))))))).2.frozen 2; have qlt := (D13.out).bl (List.mem_cons_of_mem _ (List.mem_cons_of_mem _ (List.mem_cons_of_mem _ (List.mem_cons_of_mem _ (List.mem_cons_of_mem _ (List.mem_cons_self))))))
  go_upto_region 19 with (first | (go_at_call 46; go_loud (with_reducible refine (E4.out _ (T0.out.on (D13.out).bel)).mono ?_; rintro e wn14 ⟨rfl, hb⟩; have D14 := Lib.hid ((D13.out).on hb); clear hb)) | (go_at_call 55; go_loud (with_reducible refine (hStr _ _).mono ?_; rintro e wn15 ⟨rfl, hb⟩; have D15 := Lib.hid ((D14.out.new 32 [.int .i64 0, .int .i64 0, .string ⟨#[]⟩]).on hb); clear hb)) | (go_at_call 56; go_loud (with_reducible refine (ON.out _ (T0.out.on (D15.out).bel)).mono ?_; rintro e wn16 ⟨rfl, hb⟩; have D16 := Lib.hid ((D15.out).on hb); clear hb)))
  have D17 := Lib.hid (D16.out.new 32 [.int .i64 2, .int .i64 (S.size : Int), .string ⟨#[]⟩])
  obtain ⟨w5, hw5⟩ : ∃ z, z = wn16.alloc (.cells #[.int .i64 2, .int .i64 (S.size : Int), .string ⟨#[]⟩] 32) := ⟨_, rfl⟩
  obtain ⟨x24, hx24⟩ : ∃ z, z = wn16.heap.size := ⟨_, rfl⟩
  rw [← hw5] at D17
  rw [← hx24] at D17
  simp only [← hw5, ← hx24]
  clear hw5 hx24
  have hBE : Below w5.heap.size w5 ({ w5 with drawn := w5.drawn + 1 } : World) := ⟨rfl, rfl, rfl, Nat.le_refl _, fun _ _ => rfl⟩
  refine wp_region_held (S := Below w5.heap.size w5) (by kernel_rfl) ?_
  have hSE := hBE
  generalize ({ w5 with drawn := w5.drawn + 1 } : World) = wE at hSE hBE ⊢
  have hleE := D17.out.bel.size
  have hslE := hSE.size
  have naE0 : ∀ W, Below w5.heap.size w5 W → W.cell? ⟨x24, 0, none⟩ = some (.int .i64 2) := fun W hW => ((D17.out.on hW).blk _ (List.mem_cons_self)).2.cell 0 _ rfl
  have naE1 : ∀ W, Below w5.heap.size w5 W → W.cell? ⟨x24, 1, none⟩ = some (.int .i64 (S.size : Int)) := fun W hW => ((D17.out.on hW).blk _ (List.mem_cons_self)).2.cell 1 _ rfl
  have naE2 : ∀ W, Below w5.heap.size w5 W → W.cell? ⟨x24, 2, none⟩ = some (.string ⟨#[]⟩) := fun W hW => ((D17.out.on hW).blk _ (List.mem_cons_self)).2.cell 2 _ rfl
  refine takeH 0 (oi := ⟨some 147, _, _, _, _, _⟩) (v := ?_) rfl (by kernel_rfl) (by kernel_rfl) (by kernel_rfl) (fun _ _ _ h => h) (Or.inl ⟨by rfl, ?hyE172⟩) hSE ?restE172
  case hyE172 => (intro W hW; (try dsimp only at hW); go_simp; try with_reducible rfl)
  try simp only [Act.put, List.setIfInBounds_toArray, List.set_cons_zero, List.set_cons_succ]
  refine takeH 1 (oi := ⟨some 148, _, _, _, _, _⟩) (v := ?_) rfl (by kernel_rfl) (by kernel_rfl) (by kernel_rfl) (fun _ _ _ h => h) (Or.inl ⟨by rfl, ?hyE173⟩) hSE ?restE173
  case hyE173 => (intro W hW; (try dsimp only at hW); go_simp; try with_reducible rfl)
  try simp only [Act.put, List.setIfInBounds_toArray, List.set_cons_zero, List.set_cons_succ]
  refine takeH 2 (oi := ⟨some 149, _, _, _, _, _⟩) (v := ?_) rfl (by kernel_rfl) (by kernel_rfl) (by kernel_rfl) (fun _ _ _ h => h) (Or.inl ⟨by rfl, ?hyE174⟩) hSE ?restE174
  case hyE174 => (intro W hW; (try dsimp only at hW); go_simp; try with_reducible rfl)
  try simp only [Act.put, List.setIfInBounds_toArray, List.set_cons_zero, List.set_cons_succ]
  refine takeH 3 (oi := ⟨some 150, _, _, _, _, _⟩) (v := ?_) rfl (by kernel_rfl) (by kernel_rfl) (by kernel_rfl) (fun _ _ _ h => h) (Or.inl ⟨by rfl, ?hyE175⟩) hSE ?restE175
  case hyE175 => (intro W hW; (try dsimp only at hW); go_simp; try with_reducible rfl)
  try simp only [Act.put, List.setIfInBounds_toArray, List.set_cons_zero, List.set_cons_succ]
  refine takeH 4 (oi := ⟨some 151, _, _, _, _, _⟩) (v := ?_) rfl (by kernel_rfl) (by kernel_rfl) (by kernel_rfl) (fun _ _ _ h => h) (Or.inl ⟨by rfl, ?hyE176⟩) hSE ?restE176
  case hyE176 => (intro W hW; (try dsimp only at hW); go_simp; try with_reducible rfl)
  try simp only [Act.put, List.setIfInBounds_toArray, List.set_cons_zero, List.set_cons_succ]
  refine takeH 5 (oi := ⟨some 152, _, _, _, _, _⟩) (v := ?_) rfl (by kernel_rfl) (by kernel_rfl) (by kernel_rfl) (fun _ _ _ h => h) (Or.inl ⟨by rfl, ?hyE177⟩) hSE ?restE177
  case hyE177 => (intro W hW; (try dsimp only at hW); go_simp; try with_reducible rfl)
  try simp only [Act.put, List.setIfInBounds_toArray, List.set_cons_zero, List.set_cons_succ]
  refine takeH 6 (oi := ⟨some 153, _, _, _, _, _⟩) (v := undef) rfl (by kernel_rfl) (by kernel_rfl) (by kernel_rfl) (fun _ _ _ h => h) (Or.inr ⟨by rfl, rfl⟩) hSE ?restE178
  try simp only [Act.put, List.setIfInBounds_toArray, List.set_cons_zero, List.set_cons_succ]
  refine takeH 7 (oi := ⟨some 154, _, _, _, _, _⟩) (v := undef) rfl (by kernel_rfl) (by kernel_rfl) (by kernel_rfl) (fun _ _ _ h => h) (Or.inr ⟨by rfl, rfl⟩) hSE ?restE179
  try simp only [Act.put, List.setIfInBounds_toArray, List.set_cons_zero, List.set_cons_succ]
  refine takeH 8 (oi := ⟨some 155, _, _, _, _, _⟩) (v := undef) rfl (by kernel_rfl) (by kernel_rfl) (by kernel_rfl) (fun _ _ _ h => h) (Or.inr ⟨by rfl, rfl⟩) hSE ?restE180
  try simp only [Act.put, List.setIfInBounds_toArray, List.set_cons_zero, List.set_cons_succ]
  refine takeH 9 (oi := ⟨some 156, _, _, _, _, _⟩) (v := undef) rfl (by kernel_rfl) (by kernel_rfl) (by kernel_rfl) (fun _ _ _ h => h) (Or.inr ⟨by rfl, rfl⟩) hSE ?restE181
  try simp only [Act.put, List.setIfInBounds_toArray, List.set_cons_zero, List.set_cons_succ]
  refine takeH 10 (oi := ⟨some 157, _, _, _, _, _⟩) (v := undef) rfl (by kernel_rfl) (by kernel_rfl) (by kernel_rfl) (fun _ _ _ h => h) (Or.inr ⟨by rfl, rfl⟩) hSE ?restE182
  try simp only [Act.put, List.setIfInBounds_toArray, List.set_cons_zero, List.set_cons_succ]
  refine takeH 11 (oi := ⟨some 158, _, _, _, _, _⟩) (v := undef) rfl (by kernel_rfl) (by kernel_rfl) (by kernel_rfl) (fun _ _ _ h => h) (Or.inr ⟨by rfl, rfl⟩) hSE ?restE183
  try simp only [Act.put, List.setIfInBounds_toArray, List.set_cons_zero, List.set_cons_succ]
  refine takeH 12 (oi := ⟨some 159, _, _, _, _, _⟩) (v := ?_) rfl (by kernel_rfl) (by kernel_rfl) (by kernel_rfl) (fun _ _ _ h => h) (Or.inl ⟨by rfl, ?hyE184⟩) hSE ?restE184
  case hyE184 => (intro W hW; (try dsimp only at hW); go_simp; try with_reducible rfl)
  try simp only [Act.put, List.setIfInBounds_toArray, List.set_cons_zero, List.set_cons_succ]
  refine takeH 13 (oi := ⟨some 160, _, _, _, _, _⟩) (v := ?_) rfl (by kernel_rfl) (by kernel_rfl) (by kernel_rfl) (fun _ _ _ h => h) (Or.inl ⟨by rfl, ?hyE185⟩) hSE ?restE185
  case hyE185 => (intro W hW; (try dsimp only at hW); go_simp; try with_reducible rfl)
  try simp only [Act.put, List.setIfInBounds_toArray, List.set_cons_zero, List.set_cons_succ]
  refine takeH 14 (oi := ⟨some 161, _, _, _, _, _⟩) (v := undef) rfl (by kernel_rfl) (by kernel_rfl) (by kernel_rfl) (fun _ _ _ h => h) (Or.inr ⟨by rfl, rfl⟩) hSE ?restE186
  try simp only [Act.put, List.setIfInBounds_toArray, List.set_cons_zero, List.set_cons_succ]
  refine takeH 15 (oi := ⟨some 162, _, _, _, _, _⟩) (v := undef) rfl (by kernel_rfl) (by kernel_rfl) (by kernel_rfl) (fun _ _ _ h => h) (Or.inr ⟨by rfl, rfl⟩) hSE ?restE187
  try simp only [Act.put, List.setIfInBounds_toArray, List.set_cons_zero, List.set_cons_succ]
  refine takeH 16 (oi := ⟨some 163, _, _, _, _, _⟩) (v := ?_) rfl (by kernel_rfl) (by kernel_rfl) (by kernel_rfl) (fun _ _ _ h => h) (Or.inl ⟨by rfl, ?hyE188⟩) hSE ?restE188
  case hyE188 => (intro W hW; (try dsimp only at hW); go_simp; try with_reducible rfl)
  try simp only [Act.put, List.setIfInBounds_toArray, List.set_cons_zero, List.set_cons_succ]
  refine takeH 17 (oi := ⟨some 164, _, _, _, _, _⟩) (v := ?_) rfl (by kernel_rfl) (by kernel_rfl) (by kernel_rfl) (fun _ _ _ h => h) (Or.inl ⟨by rfl, ?hyE189⟩) hSE ?restE189
  case hyE189 => (intro W hW; (try dsimp only at hW); go_simp; try with_reducible rfl)
  try simp only [Act.put, List.setIfInBounds_toArray, List.set_cons_zero, List.set_cons_succ]
  refine takeH 18 (oi := ⟨some 165, _, _, _, _, _⟩) (v := ?_) rfl (by kernel_rfl) (by kernel_rfl) (by kernel_rfl) (fun _ _ _ h => h) (Or.inl ⟨by rfl, ?hyE190⟩) hSE ?restE190
  case hyE190 => (intro W hW; (try dsimp only at hW); go_simp; try with_reducible rfl)
  try simp only [Act.put, List.setIfInBounds_toArray, List.set_cons_zero, List.set_cons_succ]
  refine takeH 19 (oi := ⟨some 166, _, _, _, _, _⟩) (v := ?_) rfl (by kernel_rfl) (by kernel_rfl) (by kernel_rfl) (fun _ _ _ h => h) (Or.inl ⟨by rfl, ?hyE191⟩) hSE ?restE191
  case hyE191 => (intro W hW; (try dsimp only at hW); go_simp; try with_reducible rfl)
  try simp only [Act.put, List.setIfInBounds_toArray, List.set_cons_zero, List.set_cons_succ]
  refine takeH 20 (oi := ⟨some 167, _, _, _, _, _⟩) (v := ?_) rfl (by kernel_rfl) (by kernel_rfl) (by kernel_rfl) (fun _ _ _ h => h) (Or.inl ⟨by rfl, ?hyE192⟩) hSE ?restE192
  case hyE192 => (intro W hW; (try dsimp only at hW); go_simp; try with_reducible rfl)
  try simp only [Act.put, List.setIfInBounds_toArray, List.set_cons_zero, List.set_cons_succ]
  refine takeH 21 (oi := ⟨some 168, _, _, _, _, _⟩) (v := ?_) rfl (by kernel_rfl) (by kernel_rfl) (by kernel_rfl) (fun _ _ _ h => h) (Or.inl ⟨by rfl, ?hyE193⟩) hSE ?restE193
  case hyE193 => (intro W hW; (try dsimp only at hW); go_simp; try with_reducible rfl)
  try simp only [Act.put, List.setIfInBounds_toArray, List.set_cons_zero, List.set_cons_succ]
  refine takeH 22 (oi := ⟨some 169, _, _, _, _, _⟩) (v := ?_) rfl (by kernel_rfl) (by kernel_rfl) (by kernel_rfl) (fun _ _ _ h => h) (Or.inl ⟨by rfl, ?hyE194⟩) hSE ?restE194
  case hyE194 => (intro W hW; (try dsimp only at hW); go_simp; try with_reducible rfl)
  try simp only [Act.put, List.setIfInBounds_toArray, List.set_cons_zero, List.set_cons_succ]
  refine takeH 23 (oi := ⟨some 170, _, _, _, _, _⟩) (v := ?_) rfl (by kernel_rfl) (by kernel_rfl) (by kernel_rfl) (fun _ _ _ h => h) (Or.inl ⟨by rfl, ?hyE195⟩) hSE ?restE195
  case hyE195 => (intro W hW; (try dsimp only at hW); go_simp; try with_reducible rfl)
  try simp only [Act.put, List.setIfInBounds_toArray, List.set_cons_zero, List.set_cons_succ]
  refine takeH 24 (oi := ⟨some 171, _, _, _, _, _⟩) (v := ?_) rfl (by kernel_rfl) (by kernel_rfl) (by kernel_rfl) (fun _ _ _ h => h) (Or.inl ⟨by rfl, ?hyE196⟩) hSE ?restE196
  case hyE196 => (intro W hW; (try dsimp only at hW); go_simp; try with_reducible rfl)
  try simp only [Act.put, List.setIfInBounds_toArray, List.set_cons_zero, List.set_cons_succ]
  refine one (i := 25) (by kernel_rfl) ?_
  refine wpOp_wanted rfl (by rfl) fun K hK => ?_
  go_simp
  with_reducible refine (hInt _ _).mono ?_
  rintro e wE197 ⟨rfl, hb⟩
  have SE197 : Below w5.heap.size w5 wE197 := hSE.trans (hb.mono hSE.size)
  clear hb
  refine hK _ _ ⟨SE197, ?_⟩
  clear hK K
  try simp only [Act.put, List.setIfInBounds_toArray, List.set_cons_zero, List.set_cons_succ]
  refine takeH 26 (oi := ⟨some 173, _, _, _, _, _⟩) (v := ?_) rfl (by kernel_rfl) (by kernel_rfl) (by kernel_rfl) (fun _ _ _ h => h) (Or.inl ⟨by rfl, ?hyE198⟩) SE197 ?restE198
  case hyE198 => (intro W hW; (try dsimp only at hW); go_simp; try with_reducible rfl)
  try simp only [Act.put, List.setIfInBounds_toArray, List.set_cons_zero, List.set_cons_succ]
  refine takeH 27 (oi := ⟨some 174, _, _, _, _, _⟩) (v := ?_) rfl (by kernel_rfl) (by kernel_rfl) (by kernel_rfl) (fun _ _ _ h => h) (Or.inl ⟨by rfl, ?hyE199⟩) SE197 ?restE199
  case hyE199 => (intro W hW; (try dsimp only at hW); go_simp; try with_reducible rfl)
  try simp only [Act.put, List.setIfInBounds_toArray, List.set_cons_zero, List.set_cons_succ]
  refine takeH 28 (oi := ⟨some 6, _, _, _, _, _⟩) (v := ?_) rfl (by kernel_rfl) (by kernel_rfl) (by kernel_rfl) (fun _ _ _ h => h) (Or.inl ⟨by rfl, ?hyE200⟩) SE197 ?restE200
  case hyE200 => (intro W hW; (try dsimp only at hW); go_simp; try with_reducible rfl)
  try simp only [Act.put, List.setIfInBounds_toArray, List.set_cons_zero, List.set_cons_succ]
  refine wpAnyH_done (by kernel_rfl) ?_ _
  clear naE0 naE1 naE2
  go_wp2_with fail
  go_ret
  exact ⟨rfl, (D17.out.on SE197).bel⟩
end Go.Proofs.YtpgpmldaggpciaaDoor.GW
