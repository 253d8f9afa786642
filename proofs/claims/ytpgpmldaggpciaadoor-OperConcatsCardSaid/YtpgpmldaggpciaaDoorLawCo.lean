/- The statement OperConcats, walked by hand. -/
import Derived.Test.YtpgpmldaggpciaaDoorGivenD
import Derived.Test.YtpgpmldaggpciaaDoorGreat3
import Derived.Test.YtpgpmldaggpciaaDoorOD
import Derived.Test.YtpgpmldaggpciaaDoorAliveE
set_option linter.unusedVariables false
set_option linter.unusedSimpArgs false
namespace Go.Proofs.YtpgpmldaggpciaaDoor.GW
open Go.RowKit Go.Proofs.YtpgpmldaggpciaaDoorW.PrintWords Go.Proofs.YtpgpmldaggpciaaDoorW.PrintLast Go.Proofs.YtpgpmldaggpciaaDoorW.PrintMore Go.Proofs.YtpgpmldaggpciaaDoor.Maths Go.Proofs.YtpgpmldaggpciaaDoor.TabW Go.Proofs.YtpgpmldaggpciaaDoor.HK Go.Proofs.YtpgpmldaggpciaaDoor.Val
section
variable {P : Program} {md : Region.Mode} {ops : Array Oper} {Q : Exit → Act → World → Prop} {S : World → Prop}
theorem one {i : Nat} {fuel : Nat} {listed : Array Bool} {a : Act} {w : World} (hr : Region.ready md ops listed = [i]) (h : wpOp P ops Q i (fun a' w' => S w' ∧ wpAnyH P md ops Q S fuel (listed.setIfInBounds i true) a' w') a w) : wpAnyH P md ops Q S (fuel + 1) listed a w :=
  wpAnyH_all hr (by simp) (fun j hj => by simp at hj; subst hj; exact h)
theorem wpOp_wanted {i : Nat} {o : Oper} {K : Act → World → Prop} {a : Act} {w : World} (ho : ops[i]? = some o) (hw : Region.wanted o (yielded ops a.tmps) = true) (h : ∀ K' : Act → World → Prop, (∀ a w, K a w → K' a w) → o.wp P a w K' Q) : wpOp P ops Q i K a w := by
  unfold wpOp
  rw [ho]
  simp only [hw, if_true]
  exact .inl (h K fun _ _ h => h)
theorem takeH (i : Nat) {oi : Oper} {v : Value} {fuel : Nat} {listed : Array Bool} {a : Act} {w : World} (hi : ops[i]? = some oi)
    (hs : Region.noSelect ops = true) (hf : Region.free md ops listed i = true) (hr : (Region.ready md ops listed).contains i = true)
    (hQ : ∀ c a w, Q (.panic c) (a.put oi.dst v) w → Q (.panic c) a w) (hy : YieldsIf P ops S oi v a) (hS : S w)
    (h : wpAnyH P md ops Q S fuel (listed.setIfInBounds i true) (a.put oi.dst v) w) : wpAnyH P md ops Q S (fuel + 1) listed a w :=
  wpAnyH_take hi hs hf hr hQ hy hS h
theorem two {i j : Nat} {fuel : Nat} {listed : Array Bool} {a : Act} {w : World} (hr : Region.ready md ops listed = [i, j]) (h1 : wpOp P ops Q i (fun a' w' => S w' ∧ wpAnyH P md ops Q S fuel (listed.setIfInBounds i true) a' w') a w) (h2 : wpOp P ops Q j (fun a' w' => S w' ∧ wpAnyH P md ops Q S fuel (listed.setIfInBounds j true) a' w') a w) : wpAnyH P md ops Q S (fuel + 1) listed a w :=
  wpAnyH_all hr (by simp) (fun q hq => by simp at hq; rcases hq with rfl | rfl; exact h1; exact h2)
end
set_option maxHeartbeats 16000000 in
set_option maxRecDepth 20000 in
theorem coG (k0 n0 : Int) (s0 : ByteArray) (k1 n1 : Int) (s1 : ByteArray) (k2 n2 : Int) (s2 : ByteArray) (hg : ∀ b W, Blk W b 32 [.int .i64 k0, .int .i64 n0, .string s0, .int .i64 k1, .int .i64 n1, .string s1, .int .i64 k2, .int .i64 n2, .string s2] → Calls Tryd.prog 44 #[.slice (some ⟨b, 0, none⟩) 3 3] W fun e w' => e = .returned (.bool true) ∧ Below W.heap.size W w') (w : World) (hT : Tab w) : Calls Tryd.prog 11 #[.agg #[.int .i64 k0, .int .i64 n0, .string s0], .agg #[.int .i64 k1, .int .i64 n1, .string s1], .agg #[.int .i64 k2, .int .i64 n2, .string s2]] w fun e w' => e = .returned (.bool true) ∧ Below w.heap.size w w' := by
  have T0 := Lib.hid hT
  have D0 := Lib.hid (OD.start3 w 32 [.int .i64 k0, .int .i64 n0, .string s0] [.int .i64 k1, .int .i64 n1, .string s1] [.int .i64 k2, .int .i64 n2, .string s2])
  have AL := Lib.hid (fun W hW => alive_calls true W hW rfl)
  have GR := Lib.hid hg
  clear hT hg 
  go_enter Tryd.func11, Tryd.ntmps11
  go_wp2_with (first | (go_at_call 43; go_loud (with_reducible refine (AL.out _ (T0.out.on D0.out.bel)).mono ?_; rintro e wn ⟨rfl, hb⟩; have D1 := Lib.hid ((D0.out).on hb); clear hb; have v0 := (D1.out.blk _ (List.mem_cons_self)).2.cell 0 _ rfl; have vz0 := (D1.out.blk _ (List.mem_cons_self)).2.frozen 0; have v1 := (D1.out.blk _ (List.mem_cons_self)).2.cell 1 _ rfl; have vz1 := (D1.out.blk _ (List.mem_cons_self)).2.frozen 1; have v2 := (D1.out.blk _ (List.mem_cons_self)).2.cell 2 _ rfl; have vz2 := (D1.out.blk _ (List.mem_cons_self)).2.frozen 2; have vlt := (D1.out).bl (List.mem_cons_self); have u0 := (D1.out.blk _ (List.mem_cons_of_mem _ (List.mem_cons_self))).2.cell 0 _ rfl; have uz0 := (D1.out.blk _ (List.mem_cons_of_mem _ (List.mem_cons_self))).2.frozen 0; have u1 := (D1.out.blk _ (List.mem_cons_of_mem _ (List.mem_cons_self))).2.cell 1 _ rfl; have uz1 := (D1.out.blk _ (List.mem_cons_of_mem _ (List.mem_cons_self))).2.frozen 1; have u2 := (D1.out.blk _ (List.mem_cons_of_mem _ (List.mem_cons_self))).2.cell 2 _ rfl; have uz2 := (D1.out.blk _ (List.mem_cons_of_mem _ (List.mem_cons_self))).2.frozen 2; have ult := (D1.out).bl (List.mem_cons_of_mem _ (List.mem_cons_self)); have q0 := (D1.out.blk _ (List.mem_cons_of_mem _ (List.mem_cons_of_mem _ (List.mem_cons_self)))).2.cell 0 _ rfl; have qz0 := (D1.out.blk _ (List.mem_cons_of_mem _ (List.mem_cons_of_mem _ (List.mem_cons_self)))).2.frozen 0; have q1 := (D1.out.blk _ (List.mem_cons_of_mem _ (List.mem_cons_of_mem _ (List.mem_cons_self)))).2.cell 1 _ rfl; have qz1 := (D1.out.blk _ (List.mem_cons_of_mem _ (List.mem_cons_of_mem _ (List.mem_cons_self)))).2.frozen 1; have q2 := (D1.out.blk _ (List.mem_cons_of_mem _ (List.mem_cons_of_mem _ (List.mem_cons_self)))).2.cell 2 _ rfl; have qz2 := (D1.out.blk _ (List.mem_cons_of_mem _ (List.mem_cons_of_mem _ (List.mem_cons_self)))).2.frozen 2; have qlt := (D1.out).bl (List.mem_cons_of_mem _ (List.mem_cons_of_mem _ (List.mem_cons_self))))) | (go_at_call 44; go_loud (with_reducible refine (GR.out _ _ (Blk.new _ [.int .i64 k0, .int .i64 n0, .string s0, .int .i64 k1, .int .i64 n1, .string s1, .int .i64 k2, .int .i64 n2, .string s2] 32)).mono ?_; rintro e wn ⟨rfl, hb⟩; have D2 := Lib.hid ((D1.out.new 32 [.int .i64 k0, .int .i64 n0, .string s0, .int .i64 k1, .int .i64 n1, .string s1, .int .i64 k2, .int .i64 n2, .string s2]).on hb); clear hb; have v0 := (D2.out.blk _ (List.mem_cons_of_mem _ (List.mem_cons_self))).2.cell 0 _ rfl; have vz0 := (D2.out.blk _ (List.mem_cons_of_mem _ (List.mem_cons_self))).2.frozen 0; have v1 := (D2.out.blk _ (List.mem_cons_of_mem _ (List.mem_cons_self))).2.cell 1 _ rfl; have vz1 := (D2.out.blk _ (List.mem_cons_of_mem _ (List.mem_cons_self))).2.frozen 1; have v2 := (D2.out.blk _ (List.mem_cons_of_mem _ (List.mem_cons_self))).2.cell 2 _ rfl; have vz2 := (D2.out.blk _ (List.mem_cons_of_mem _ (List.mem_cons_self))).2.frozen 2; have vlt := (D2.out).bl (List.mem_cons_of_mem _ (List.mem_cons_self)); have u0 := (D2.out.blk _ (List.mem_cons_of_mem _ (List.mem_cons_of_mem _ (List.mem_cons_self)))).2.cell 0 _ rfl; have uz0 := (D2.out.blk _ (List.mem_cons_of_mem _ (List.mem_cons_of_mem _ (List.mem_cons_self)))).2.frozen 0; have u1 := (D2.out.blk _ (List.mem_cons_of_mem _ (List.mem_cons_of_mem _ (List.mem_cons_self)))).2.cell 1 _ rfl; have uz1 := (D2.out.blk _ (List.mem_cons_of_mem _ (List.mem_cons_of_mem _ (List.mem_cons_self)))).2.frozen 1; have u2 := (D2.out.blk _ (List.mem_cons_of_mem _ (List.mem_cons_of_mem _ (List.mem_cons_self)))).2.cell 2 _ rfl; have uz2 := (D2.out.blk _ (List.mem_cons_of_mem _ (List.mem_cons_of_mem _ (List.mem_cons_self)))).2.frozen 2; have ult := (D2.out).bl (List.mem_cons_of_mem _ (List.mem_cons_of_mem _ (List.mem_cons_self))); have q0 := (D2.out.blk _ (List.mem_cons_of_mem _ (List.mem_cons_of_mem _ (List.mem_cons_of_mem _ (List.mem_cons_self))))).2.cell 0 _ rfl; have qz0 := (D2.out.blk _ (List.mem_cons_of_mem _ (List.mem_cons_of_mem _ (List.mem_cons_of_mem _ (List.mem_cons_self))))).2.frozen 0; have q1 := (D2.out.blk _ (List.mem_cons_of_mem _ (List.mem_cons_of_mem _ (List.mem_cons_of_mem _ (List.mem_cons_self))))).2.cell 1 _ rfl; have qz1 := (D2.out.blk _ (List.mem_cons_of_mem _ (List.mem_cons_of_mem _ (List.mem_cons_of_mem _ (List.mem_cons_self))))).2.frozen 1; have q2 := (D2.out.blk _ (List.mem_cons_of_mem _ (List.mem_cons_of_mem _ (List.mem_cons_of_mem _ (List.mem_cons_self))))).2.cell 2 _ rfl; have qz2 := (D2.out.blk _ (List.mem_cons_of_mem _ (List.mem_cons_of_mem _ (List.mem_cons_of_mem _ (List.mem_cons_self))))).2.frozen 2; have qlt := (D2.out).bl (List.mem_cons_of_mem _ (List.mem_cons_of_mem _ (List.mem_cons_of_mem _ (List.mem_cons_self)))))))
  go_ret
  exact ⟨rfl, D2.out.bel⟩
set_option maxHeartbeats 16000000 in
set_option maxRecDepth 20000 in
theorem coE1 (k0 n0 : Int) (s0 : ByteArray) (k1 n1 : Int) (s1 : ByteArray) (k2 n2 : Int) (s2 : ByteArray) (r1 r2 : Int) (r3 : ByteArray) (r4 : Int) (hg : ∀ b W, Blk W b 32 [.int .i64 k0, .int .i64 n0, .string s0, .int .i64 k1, .int .i64 n1, .string s1, .int .i64 k2, .int .i64 n2, .string s2] → Calls Tryd.prog 44 #[.slice (some ⟨b, 0, none⟩) 3 3] W fun e w' => e = .returned (.bool false) ∧ Below W.heap.size W w') (d1 : doF 11 k0 n0 s0 k1 n1 s1 1048576 = some (0, 0, ⟨#[]⟩, 18)) (d2 : doF 11 k1 n1 s1 k2 n2 s2 1048576 = some (r1, r2, r3, r4)) (w : World) (hT : Tab w) : Calls Tryd.prog 11 #[.agg #[.int .i64 k0, .int .i64 n0, .string s0], .agg #[.int .i64 k1, .int .i64 n1, .string s1], .agg #[.int .i64 k2, .int .i64 n2, .string s2]] w fun e w' => e = .returned (.bool true) ∧ Below w.heap.size w w' := by
  have T0 := Lib.hid hT
  have D0 := Lib.hid (OD.start3 w 32 [.int .i64 k0, .int .i64 n0, .string s0] [.int .i64 k1, .int .i64 n1, .string s1] [.int .i64 k2, .int .i64 n2, .string s2])
  have AL := Lib.hid (fun W hW => alive_calls true W hW rfl)
  have GR := Lib.hid hg
  have X1 := Lib.hid (fun W hW => do_calls 11 k0 n0 s0 k1 n1 s1 1048576 (0) (0) (⟨#[]⟩) (18) W hW d1)
  have X2 := Lib.hid (fun W hW => do_calls 11 k1 n1 s1 k2 n2 s2 1048576 (r1) (r2) (r3) (r4) W hW d2)
  clear hT hg d1 d2
  go_enter Tryd.func11, Tryd.ntmps11
  go_wp2_with (first | (go_at_call 43; go_loud (with_reducible refine (AL.out _ (T0.out.on D0.out.bel)).mono ?_; rintro e wn ⟨rfl, hb⟩; have D1 := Lib.hid ((D0.out).on hb); clear hb; have v0 := (D1.out.blk _ (List.mem_cons_self)).2.cell 0 _ rfl; have vz0 := (D1.out.blk _ (List.mem_cons_self)).2.frozen 0; have v1 := (D1.out.blk _ (List.mem_cons_self)).2.cell 1 _ rfl; have vz1 := (D1.out.blk _ (List.mem_cons_self)).2.frozen 1; have v2 := (D1.out.blk _ (List.mem_cons_self)).2.cell 2 _ rfl; have vz2 := (D1.out.blk _ (List.mem_cons_self)).2.frozen 2; have vlt := (D1.out).bl (List.mem_cons_self); have u0 := (D1.out.blk _ (List.mem_cons_of_mem _ (List.mem_cons_self))).2.cell 0 _ rfl; have uz0 := (D1.out.blk _ (List.mem_cons_of_mem _ (List.mem_cons_self))).2.frozen 0; have u1 := (D1.out.blk _ (List.mem_cons_of_mem _ (List.mem_cons_self))).2.cell 1 _ rfl; have uz1 := (D1.out.blk _ (List.mem_cons_of_mem _ (List.mem_cons_self))).2.frozen 1; have u2 := (D1.out.blk _ (List.mem_cons_of_mem _ (List.mem_cons_self))).2.cell 2 _ rfl; have uz2 := (D1.out.blk _ (List.mem_cons_of_mem _ (List.mem_cons_self))).2.frozen 2; have ult := (D1.out).bl (List.mem_cons_of_mem _ (List.mem_cons_self)); have q0 := (D1.out.blk _ (List.mem_cons_of_mem _ (List.mem_cons_of_mem _ (List.mem_cons_self)))).2.cell 0 _ rfl; have qz0 := (D1.out.blk _ (List.mem_cons_of_mem _ (List.mem_cons_of_mem _ (List.mem_cons_self)))).2.frozen 0; have q1 := (D1.out.blk _ (List.mem_cons_of_mem _ (List.mem_cons_of_mem _ (List.mem_cons_self)))).2.cell 1 _ rfl; have qz1 := (D1.out.blk _ (List.mem_cons_of_mem _ (List.mem_cons_of_mem _ (List.mem_cons_self)))).2.frozen 1; have q2 := (D1.out.blk _ (List.mem_cons_of_mem _ (List.mem_cons_of_mem _ (List.mem_cons_self)))).2.cell 2 _ rfl; have qz2 := (D1.out.blk _ (List.mem_cons_of_mem _ (List.mem_cons_of_mem _ (List.mem_cons_self)))).2.frozen 2; have qlt := (D1.out).bl (List.mem_cons_of_mem _ (List.mem_cons_of_mem _ (List.mem_cons_self))))) | (go_at_call 44; go_loud (with_reducible refine (GR.out _ _ (Blk.new _ [.int .i64 k0, .int .i64 n0, .string s0, .int .i64 k1, .int .i64 n1, .string s1, .int .i64 k2, .int .i64 n2, .string s2] 32)).mono ?_; rintro e wn ⟨rfl, hb⟩; have D2 := Lib.hid ((D1.out.new 32 [.int .i64 k0, .int .i64 n0, .string s0, .int .i64 k1, .int .i64 n1, .string s1, .int .i64 k2, .int .i64 n2, .string s2]).on hb); clear hb; have v0 := (D2.out.blk _ (List.mem_cons_of_mem _ (List.mem_cons_self))).2.cell 0 _ rfl; have vz0 := (D2.out.blk _ (List.mem_cons_of_mem _ (List.mem_cons_self))).2.frozen 0; have v1 := (D2.out.blk _ (List.mem_cons_of_mem _ (List.mem_cons_self))).2.cell 1 _ rfl; have vz1 := (D2.out.blk _ (List.mem_cons_of_mem _ (List.mem_cons_self))).2.frozen 1; have v2 := (D2.out.blk _ (List.mem_cons_of_mem _ (List.mem_cons_self))).2.cell 2 _ rfl; have vz2 := (D2.out.blk _ (List.mem_cons_of_mem _ (List.mem_cons_self))).2.frozen 2; have vlt := (D2.out).bl (List.mem_cons_of_mem _ (List.mem_cons_self)); have u0 := (D2.out.blk _ (List.mem_cons_of_mem _ (List.mem_cons_of_mem _ (List.mem_cons_self)))).2.cell 0 _ rfl; have uz0 := (D2.out.blk _ (List.mem_cons_of_mem _ (List.mem_cons_of_mem _ (List.mem_cons_self)))).2.frozen 0; have u1 := (D2.out.blk _ (List.mem_cons_of_mem _ (List.mem_cons_of_mem _ (List.mem_cons_self)))).2.cell 1 _ rfl; have uz1 := (D2.out.blk _ (List.mem_cons_of_mem _ (List.mem_cons_of_mem _ (List.mem_cons_self)))).2.frozen 1; have u2 := (D2.out.blk _ (List.mem_cons_of_mem _ (List.mem_cons_of_mem _ (List.mem_cons_self)))).2.cell 2 _ rfl; have uz2 := (D2.out.blk _ (List.mem_cons_of_mem _ (List.mem_cons_of_mem _ (List.mem_cons_self)))).2.frozen 2; have ult := (D2.out).bl (List.mem_cons_of_mem _ (List.mem_cons_of_mem _ (List.mem_cons_self))); have q0 := (D2.out.blk _ (List.mem_cons_of_mem _ (List.mem_cons_of_mem _ (List.mem_cons_of_mem _ (List.mem_cons_self))))).2.cell 0 _ rfl; have qz0 := (D2.out.blk _ (List.mem_cons_of_mem _ (List.mem_cons_of_mem _ (List.mem_cons_of_mem _ (List.mem_cons_self))))).2.frozen 0; have q1 := (D2.out.blk _ (List.mem_cons_of_mem _ (List.mem_cons_of_mem _ (List.mem_cons_of_mem _ (List.mem_cons_self))))).2.cell 1 _ rfl; have qz1 := (D2.out.blk _ (List.mem_cons_of_mem _ (List.mem_cons_of_mem _ (List.mem_cons_of_mem _ (List.mem_cons_self))))).2.frozen 1; have q2 := (D2.out.blk _ (List.mem_cons_of_mem _ (List.mem_cons_of_mem _ (List.mem_cons_of_mem _ (List.mem_cons_self))))).2.cell 2 _ rfl; have qz2 := (D2.out.blk _ (List.mem_cons_of_mem _ (List.mem_cons_of_mem _ (List.mem_cons_of_mem _ (List.mem_cons_self))))).2.frozen 2; have qlt := (D2.out).bl (List.mem_cons_of_mem _ (List.mem_cons_of_mem _ (List.mem_cons_of_mem _ (List.mem_cons_self)))))) | (go_at_call 46; go_loud (with_reducible refine (X1.out _ (T0.out.on (D2.out).bel)).mono ?_; rintro e wn3 ⟨rfl, hb⟩; have D3 := Lib.hid ((D2.out).on hb); clear hb; have v0 := (D3.out.blk _ (List.mem_cons_of_mem _ (List.mem_cons_self))).2.cell 0 _ rfl; have vz0 := (D3.out.blk _ (List.mem_cons_of_mem _ (List.mem_cons_self))).2.frozen 0; have v1 := (D3.out.blk _ (List.mem_cons_of_mem _ (List.mem_cons_self))).2.cell 1 _ rfl; have vz1 := (D3.out.blk _ (List.mem_cons_of_mem _ (List.mem_cons_self))).2.frozen 1; have v2 := (D3.out.blk _ (List.mem_cons_of_mem _ (List.mem_cons_self))).2.cell 2 _ rfl; have vz2 := (D3.out.blk _ (List.mem_cons_of_mem _ (List.mem_cons_self))).2.frozen 2; have vlt := (D3.out).bl (List.mem_cons_of_mem _ (List.mem_cons_self)); have u0 := (D3.out.blk _ (List.mem_cons_of_mem _ (List.mem_cons_of_mem _ (List.mem_cons_self)))).2.cell 0 _ rfl; have uz0 := (D3.out.blk _ (List.mem_cons_of_mem _ (List.mem_cons_of_mem _ (List.mem_cons_self)))).2.frozen 0; have u1 := (D3.out.blk _ (List.mem_cons_of_mem _ (List.mem_cons_of_mem _ (List.mem_cons_self)))).2.cell 1 _ rfl; have uz1 := (D3.out.blk _ (List.mem_cons_of_mem _ (List.mem_cons_of_mem _ (List.mem_cons_self)))).2.frozen 1; have u2 := (D3.out.blk _ (List.mem_cons_of_mem _ (List.mem_cons_of_mem _ (List.mem_cons_self)))).2.cell 2 _ rfl; have uz2 := (D3.out.blk _ (List.mem_cons_of_mem _ (List.mem_cons_of_mem _ (List.mem_cons_self)))).2.frozen 2; have ult := (D3.out).bl (List.mem_cons_of_mem _ (List.mem_cons_of_mem _ (List.mem_cons_self))); have q0 := (D3.out.blk _ (List.mem_cons_of_mem _ (List.mem_cons_of_mem _ (List.mem_cons_of_mem _ (List.mem_cons_self))))).2.cell 0 _ rfl; have qz0 := (D3.out.blk _ (List.mem_cons_of_mem _ (List.mem_cons_of_mem _ (List.mem_cons_of_mem _ (List.mem_cons_self))))).2.frozen 0; have q1 := (D3.out.blk _ (List.mem_cons_of_mem _ (List.mem_cons_of_mem _ (List.mem_cons_of_mem _ (List.mem_cons_self))))).2.cell 1 _ rfl; have qz1 := (D3.out.blk _ (List.mem_cons_of_mem _ (List.mem_cons_of_mem _ (List.mem_cons_of_mem _ (List.mem_cons_self))))).2.frozen 1; have q2 := (D3.out.blk _ (List.mem_cons_of_mem _ (List.mem_cons_of_mem _ (List.mem_cons_of_mem _ (List.mem_cons_self))))).2.cell 2 _ rfl; have qz2 := (D3.out.blk _ (List.mem_cons_of_mem _ (List.mem_cons_of_mem _ (List.mem_cons_of_mem _ (List.mem_cons_self))))).2.frozen 2; have qlt := (D3.out).bl (List.mem_cons_of_mem _ (List.mem_cons_of_mem _ (List.mem_cons_of_mem _ (List.mem_cons_self)))))) | (go_at_call 46; go_loud (with_reducible refine (X2.out _ (T0.out.on (D3.out.new 32 [.int .i64 0, .int .i64 0, .string ⟨#[]⟩]).bel)).mono ?_; rintro e wn4 ⟨rfl, hb⟩; have D4 := Lib.hid ((D3.out.new 32 [.int .i64 0, .int .i64 0, .string ⟨#[]⟩]).on hb); clear hb)))
  go_ret
  exact ⟨rfl, (D4.out.new 32 [.int .i64 r1, .int .i64 r2, .string r3]).bel⟩
set_option maxHeartbeats 16000000 in
set_option maxRecDepth 20000 in
theorem coE2 (k0 n0 : Int) (s0 : ByteArray) (k1 n1 : Int) (s1 : ByteArray) (k2 n2 : Int) (s2 : ByteArray) (A B : ByteArray) (hg : ∀ b W, Blk W b 32 [.int .i64 k0, .int .i64 n0, .string s0, .int .i64 k1, .int .i64 n1, .string s1, .int .i64 k2, .int .i64 n2, .string s2] → Calls Tryd.prog 44 #[.slice (some ⟨b, 0, none⟩) 3 3] W fun e w' => e = .returned (.bool false) ∧ Below W.heap.size W w') (d1 : doF 11 k0 n0 s0 k1 n1 s1 1048576 = some (3, 0, (A ++ B), 0)) (d2 : doF 11 k1 n1 s1 k2 n2 s2 1048576 = some (0, 0, ⟨#[]⟩, 18)) (w : World) (hT : Tab w) : Calls Tryd.prog 11 #[.agg #[.int .i64 k0, .int .i64 n0, .string s0], .agg #[.int .i64 k1, .int .i64 n1, .string s1], .agg #[.int .i64 k2, .int .i64 n2, .string s2]] w fun e w' => e = .returned (.bool true) ∧ Below w.heap.size w w' := by
  have T0 := Lib.hid hT
  have D0 := Lib.hid (OD.start3 w 32 [.int .i64 k0, .int .i64 n0, .string s0] [.int .i64 k1, .int .i64 n1, .string s1] [.int .i64 k2, .int .i64 n2, .string s2])
  have AL := Lib.hid (fun W hW => alive_calls true W hW rfl)
  have GR := Lib.hid hg
  have X1 := Lib.hid (fun W hW => do_calls 11 k0 n0 s0 k1 n1 s1 1048576 (3) (0) ((A ++ B)) (0) W hW d1)
  have X2 := Lib.hid (fun W hW => do_calls 11 k1 n1 s1 k2 n2 s2 1048576 (0) (0) (⟨#[]⟩) (18) W hW d2)
  clear hT hg d1 d2
  go_enter Tryd.func11, Tryd.ntmps11
  go_wp2_with (first | (go_at_call 43; go_loud (with_reducible refine (AL.out _ (T0.out.on D0.out.bel)).mono ?_; rintro e wn ⟨rfl, hb⟩; have D1 := Lib.hid ((D0.out).on hb); clear hb; have v0 := (D1.out.blk _ (List.mem_cons_self)).2.cell 0 _ rfl; have vz0 := (D1.out.blk _ (List.mem_cons_self)).2.frozen 0; have v1 := (D1.out.blk _ (List.mem_cons_self)).2.cell 1 _ rfl; have vz1 := (D1.out.blk _ (List.mem_cons_self)).2.frozen 1; have v2 := (D1.out.blk _ (List.mem_cons_self)).2.cell 2 _ rfl; have vz2 := (D1.out.blk _ (List.mem_cons_self)).2.frozen 2; have vlt := (D1.out).bl (List.mem_cons_self); have u0 := (D1.out.blk _ (List.mem_cons_of_mem _ (List.mem_cons_self))).2.cell 0 _ rfl; have uz0 := (D1.out.blk _ (List.mem_cons_of_mem _ (List.mem_cons_self))).2.frozen 0; have u1 := (D1.out.blk _ (List.mem_cons_of_mem _ (List.mem_cons_self))).2.cell 1 _ rfl; have uz1 := (D1.out.blk _ (List.mem_cons_of_mem _ (List.mem_cons_self))).2.frozen 1; have u2 := (D1.out.blk _ (List.mem_cons_of_mem _ (List.mem_cons_self))).2.cell 2 _ rfl; have uz2 := (D1.out.blk _ (List.mem_cons_of_mem _ (List.mem_cons_self))).2.frozen 2; have ult := (D1.out).bl (List.mem_cons_of_mem _ (List.mem_cons_self)); have q0 := (D1.out.blk _ (List.mem_cons_of_mem _ (List.mem_cons_of_mem _ (List.mem_cons_self)))).2.cell 0 _ rfl; have qz0 := (D1.out.blk _ (List.mem_cons_of_mem _ (List.mem_cons_of_mem _ (List.mem_cons_self)))).2.frozen 0; have q1 := (D1.out.blk _ (List.mem_cons_of_mem _ (List.mem_cons_of_mem _ (List.mem_cons_self)))).2.cell 1 _ rfl; have qz1 := (D1.out.blk _ (List.mem_cons_of_mem _ (List.mem_cons_of_mem _ (List.mem_cons_self)))).2.frozen 1; have q2 := (D1.out.blk _ (List.mem_cons_of_mem _ (List.mem_cons_of_mem _ (List.mem_cons_self)))).2.cell 2 _ rfl; have qz2 := (D1.out.blk _ (List.mem_cons_of_mem _ (List.mem_cons_of_mem _ (List.mem_cons_self)))).2.frozen 2; have qlt := (D1.out).bl (List.mem_cons_of_mem _ (List.mem_cons_of_mem _ (List.mem_cons_self))))) | (go_at_call 44; go_loud (with_reducible refine (GR.out _ _ (Blk.new _ [.int .i64 k0, .int .i64 n0, .string s0, .int .i64 k1, .int .i64 n1, .string s1, .int .i64 k2, .int .i64 n2, .string s2] 32)).mono ?_; rintro e wn ⟨rfl, hb⟩; have D2 := Lib.hid ((D1.out.new 32 [.int .i64 k0, .int .i64 n0, .string s0, .int .i64 k1, .int .i64 n1, .string s1, .int .i64 k2, .int .i64 n2, .string s2]).on hb); clear hb; have v0 := (D2.out.blk _ (List.mem_cons_of_mem _ (List.mem_cons_self))).2.cell 0 _ rfl; have vz0 := (D2.out.blk _ (List.mem_cons_of_mem _ (List.mem_cons_self))).2.frozen 0; have v1 := (D2.out.blk _ (List.mem_cons_of_mem _ (List.mem_cons_self))).2.cell 1 _ rfl; have vz1 := (D2.out.blk _ (List.mem_cons_of_mem _ (List.mem_cons_self))).2.frozen 1; have v2 := (D2.out.blk _ (List.mem_cons_of_mem _ (List.mem_cons_self))).2.cell 2 _ rfl; have vz2 := (D2.out.blk _ (List.mem_cons_of_mem _ (List.mem_cons_self))).2.frozen 2; have vlt := (D2.out).bl (List.mem_cons_of_mem _ (List.mem_cons_self)); have u0 := (D2.out.blk _ (List.mem_cons_of_mem _ (List.mem_cons_of_mem _ (List.mem_cons_self)))).2.cell 0 _ rfl; have uz0 := (D2.out.blk _ (List.mem_cons_of_mem _ (List.mem_cons_of_mem _ (List.mem_cons_self)))).2.frozen 0; have u1 := (D2.out.blk _ (List.mem_cons_of_mem _ (List.mem_cons_of_mem _ (List.mem_cons_self)))).2.cell 1 _ rfl; have uz1 := (D2.out.blk _ (List.mem_cons_of_mem _ (List.mem_cons_of_mem _ (List.mem_cons_self)))).2.frozen 1; have u2 := (D2.out.blk _ (List.mem_cons_of_mem _ (List.mem_cons_of_mem _ (List.mem_cons_self)))).2.cell 2 _ rfl; have uz2 := (D2.out.blk _ (List.mem_cons_of_mem _ (List.mem_cons_of_mem _ (List.mem_cons_self)))).2.frozen 2; have ult := (D2.out).bl (List.mem_cons_of_mem _ (List.mem_cons_of_mem _ (List.mem_cons_self))); have q0 := (D2.out.blk _ (List.mem_cons_of_mem _ (List.mem_cons_of_mem _ (List.mem_cons_of_mem _ (List.mem_cons_self))))).2.cell 0 _ rfl; have qz0 := (D2.out.blk _ (List.mem_cons_of_mem _ (List.mem_cons_of_mem _ (List.mem_cons_of_mem _ (List.mem_cons_self))))).2.frozen 0; have q1 := (D2.out.blk _ (List.mem_cons_of_mem _ (List.mem_cons_of_mem _ (List.mem_cons_of_mem _ (List.mem_cons_self))))).2.cell 1 _ rfl; have qz1 := (D2.out.blk _ (List.mem_cons_of_mem _ (List.mem_cons_of_mem _ (List.mem_cons_of_mem _ (List.mem_cons_self))))).2.frozen 1; have q2 := (D2.out.blk _ (List.mem_cons_of_mem _ (List.mem_cons_of_mem _ (List.mem_cons_of_mem _ (List.mem_cons_self))))).2.cell 2 _ rfl; have qz2 := (D2.out.blk _ (List.mem_cons_of_mem _ (List.mem_cons_of_mem _ (List.mem_cons_of_mem _ (List.mem_cons_self))))).2.frozen 2; have qlt := (D2.out).bl (List.mem_cons_of_mem _ (List.mem_cons_of_mem _ (List.mem_cons_of_mem _ (List.mem_cons_self)))))) | (go_at_call 46; go_loud (with_reducible refine (X1.out _ (T0.out.on (D2.out).bel)).mono ?_; rintro e wn3 ⟨rfl, hb⟩; have D3 := Lib.hid ((D2.out).on hb); clear hb; have v0 := (D3.out.blk _ (List.mem_cons_of_mem _ (List.mem_cons_self))).2.cell 0 _ rfl; have vz0 := (D3.out.blk _ (List.mem_cons_of_mem _ (List.mem_cons_self))).2.frozen 0; have v1 := (D3.out.blk _ (List.mem_cons_of_mem _ (List.mem_cons_self))).2.cell 1 _ rfl; have vz1 := (D3.out.blk _ (List.mem_cons_of_mem _ (List.mem_cons_self))).2.frozen 1; have v2 := (D3.out.blk _ (List.mem_cons_of_mem _ (List.mem_cons_self))).2.cell 2 _ rfl; have vz2 := (D3.out.blk _ (List.mem_cons_of_mem _ (List.mem_cons_self))).2.frozen 2; have vlt := (D3.out).bl (List.mem_cons_of_mem _ (List.mem_cons_self)); have u0 := (D3.out.blk _ (List.mem_cons_of_mem _ (List.mem_cons_of_mem _ (List.mem_cons_self)))).2.cell 0 _ rfl; have uz0 := (D3.out.blk _ (List.mem_cons_of_mem _ (List.mem_cons_of_mem _ (List.mem_cons_self)))).2.frozen 0; have u1 := (D3.out.blk _ (List.mem_cons_of_mem _ (List.mem_cons_of_mem _ (List.mem_cons_self)))).2.cell 1 _ rfl; have uz1 := (D3.out.blk _ (List.mem_cons_of_mem _ (List.mem_cons_of_mem _ (List.mem_cons_self)))).2.frozen 1; have u2 := (D3.out.blk _ (List.mem_cons_of_mem _ (List.mem_cons_of_mem _ (List.mem_cons_self)))).2.cell 2 _ rfl; have uz2 := (D3.out.blk _ (List.mem_cons_of_mem _ (List.mem_cons_of_mem _ (List.mem_cons_self)))).2.frozen 2; have ult := (D3.out).bl (List.mem_cons_of_mem _ (List.mem_cons_of_mem _ (List.mem_cons_self))); have q0 := (D3.out.blk _ (List.mem_cons_of_mem _ (List.mem_cons_of_mem _ (List.mem_cons_of_mem _ (List.mem_cons_self))))).2.cell 0 _ rfl; have qz0 := (D3.out.blk _ (List.mem_cons_of_mem _ (List.mem_cons_of_mem _ (List.mem_cons_of_mem _ (List.mem_cons_self))))).2.frozen 0; have q1 := (D3.out.blk _ (List.mem_cons_of_mem _ (List.mem_cons_of_mem _ (List.mem_cons_of_mem _ (List.mem_cons_self))))).2.cell 1 _ rfl; have qz1 := (D3.out.blk _ (List.mem_cons_of_mem _ (List.mem_cons_of_mem _ (List.mem_cons_of_mem _ (List.mem_cons_self))))).2.frozen 1; have q2 := (D3.out.blk _ (List.mem_cons_of_mem _ (List.mem_cons_of_mem _ (List.mem_cons_of_mem _ (List.mem_cons_self))))).2.cell 2 _ rfl; have qz2 := (D3.out.blk _ (List.mem_cons_of_mem _ (List.mem_cons_of_mem _ (List.mem_cons_of_mem _ (List.mem_cons_self))))).2.frozen 2; have qlt := (D3.out).bl (List.mem_cons_of_mem _ (List.mem_cons_of_mem _ (List.mem_cons_of_mem _ (List.mem_cons_self)))))) | (go_at_call 46; go_loud (with_reducible refine (X2.out _ (T0.out.on (D3.out.new 32 [.int .i64 3, .int .i64 0, .string (A ++ B)]).bel)).mono ?_; rintro e wn4 ⟨rfl, hb⟩; have D4 := Lib.hid ((D3.out.new 32 [.int .i64 3, .int .i64 0, .string (A ++ B)]).on hb); clear hb)))
  go_ret
  exact ⟨rfl, (D4.out.new 32 [.int .i64 0, .int .i64 0, .string ⟨#[]⟩]).bel⟩
set_option maxHeartbeats 16000000 in
set_option maxRecDepth 20000 in
theorem coOK (k0 n0 : Int) (s0 : ByteArray) (k1 n1 : Int) (s1 : ByteArray) (k2 n2 : Int) (s2 : ByteArray) (A B C X : ByteArray) (hg : ∀ b W, Blk W b 32 [.int .i64 k0, .int .i64 n0, .string s0, .int .i64 k1, .int .i64 n1, .string s1, .int .i64 k2, .int .i64 n2, .string s2] → Calls Tryd.prog 44 #[.slice (some ⟨b, 0, none⟩) 3 3] W fun e w' => e = .returned (.bool false) ∧ Below W.heap.size W w') (d1 : doF 11 k0 n0 s0 k1 n1 s1 1048576 = some (3, 0, (A ++ B), 0)) (d2 : doF 11 k1 n1 s1 k2 n2 s2 1048576 = some (3, 0, (B ++ C), 0)) (d3 : doF 11 3 0 (A ++ B) k2 n2 s2 1048576 = some (3, 0, X, 0)) (d4 : doF 11 k0 n0 s0 3 0 (B ++ C) 1048576 = some (3, 0, X, 0)) (d5 : doF 11 k0 n0 s0 3 0 ⟨#[]⟩ 1048576 = some (3, 0, A, 0)) (p0 : printF k0 n0 s0 = some A) (p1 : printF k1 n1 s1 = some B) (p2 : printF k2 n2 s2 = some C) (o1 : oneF 23 3 0 X = some (2, ((A.size : Int) + (B.size : Int) + (C.size : Int)), ⟨#[]⟩, 0)) (hw1 : IntKind.i64.wrap ((A.size : Int) + (B.size : Int)) = (A.size : Int) + (B.size : Int)) (hw2 : IntKind.i64.wrap ((A.size : Int) + (B.size : Int) + (C.size : Int)) = (A.size : Int) + (B.size : Int) + (C.size : Int)) (w : World) (hT : Tab w) : Calls Tryd.prog 11 #[.agg #[.int .i64 k0, .int .i64 n0, .string s0], .agg #[.int .i64 k1, .int .i64 n1, .string s1], .agg #[.int .i64 k2, .int .i64 n2, .string s2]] w fun e w' => e = .returned (.bool true) ∧ Below w.heap.size w w' := by
  have T0 := Lib.hid hT
  have D0 := Lib.hid (OD.start3 w 32 [.int .i64 k0, .int .i64 n0, .string s0] [.int .i64 k1, .int .i64 n1, .string s1] [.int .i64 k2, .int .i64 n2, .string s2])
  have AL := Lib.hid (fun W hW => alive_calls true W hW rfl)
  have GR := Lib.hid hg
  have X1 := Lib.hid (fun W hW => do_calls 11 k0 n0 s0 k1 n1 s1 1048576 (3) (0) ((A ++ B)) (0) W hW d1)
  have X2 := Lib.hid (fun W hW => do_calls 11 k1 n1 s1 k2 n2 s2 1048576 (3) (0) ((B ++ C)) (0) W hW d2)
  have X3 := Lib.hid (fun W hW => do_calls 11 3 0 (A ++ B) k2 n2 s2 1048576 (3) (0) (X) (0) W hW d3)
  have X4 := Lib.hid (fun W hW => do_calls 11 k0 n0 s0 3 0 (B ++ C) 1048576 (3) (0) (X) (0) W hW d4)
  have X5 := Lib.hid (fun W hW => do_calls 11 k0 n0 s0 3 0 ⟨#[]⟩ 1048576 (3) (0) (A) (0) W hW d5)
  have PR0 := Lib.hid (fun W hW => print_calls k0 n0 s0 A W hW p0)
  have PR1 := Lib.hid (fun W hW => print_calls k1 n1 s1 B W hW p1)
  have PR2 := Lib.hid (fun W hW => print_calls k2 n2 s2 C W hW p2)
  have ON := Lib.hid (fun W hW => one_calls 23 3 0 X 2 ((A.size : Int) + (B.size : Int) + (C.size : Int)) ⟨#[]⟩ 0 W hW o1)
  clear hT hg d1 d2 d3 d4 d5 p0 p1 p2 o1
  go_enter Tryd.func11, Tryd.ntmps11
  go_upto_region 11 with (first | (go_at_call 43; go_loud (with_reducible refine (AL.out _ (T0.out.on D0.out.bel)).mono ?_; rintro e wn ⟨rfl, hb⟩; have D1 := Lib.hid ((D0.out).on hb); clear hb; have v0 := (D1.out.blk _ (List.mem_cons_self)).2.cell 0 _ rfl; have vz0 := (D1.out.blk _ (List.mem_cons_self)).2.frozen 0; have v1 := (D1.out.blk _ (List.mem_cons_self)).2.cell 1 _ rfl; have vz1 := (D1.out.blk _ (List.mem_cons_self)).2.frozen 1; have v2 := (D1.out.blk _ (List.mem_cons_self)).2.cell 2 _ rfl; have vz2 := (D1.out.blk _ (List.mem_cons_self)).2.frozen 2; have vlt := (D1.out).bl (List.mem_cons_self); have u0 := (D1.out.blk _ (List.mem_cons_of_mem _ (List.mem_cons_self))).2.cell 0 _ rfl; have uz0 := (D1.out.blk _ (List.mem_cons_of_mem _ (List.mem_cons_self))).2.frozen 0; have u1 := (D1.out.blk _ (List.mem_cons_of_mem _ (List.mem_cons_self))).2.cell 1 _ rfl; have uz1 := (D1.out.blk _ (List.mem_cons_of_mem _ (List.mem_cons_self))).2.frozen 1; have u2 := (D1.out.blk _ (List.mem_cons_of_mem _ (List.mem_cons_self))).2.cell 2 _ rfl; have uz2 := (D1.out.blk _ (List.mem_cons_of_mem _ (List.mem_cons_self))).2.frozen 2; have ult := (D1.out).bl (List.mem_cons_of_mem _ (List.mem_cons_self)); have q0 := (D1.out.blk _ (List.mem_cons_of_mem _ (List.mem_cons_of_mem _ (List.mem_cons_self)))).2.cell 0 _ rfl; have qz0 := (D1.out.blk _ (List.mem_cons_of_mem _ (List.mem_cons_of_mem _ (List.mem_cons_self)))).2.frozen 0; have q1 := (D1.out.blk _ (List.mem_cons_of_mem _ (List.mem_cons_of_mem _ (List.mem_cons_self)))).2.cell 1 _ rfl; have qz1 := (D1.out.blk _ (List.mem_cons_of_mem _ (List.mem_cons_of_mem _ (List.mem_cons_self)))).2.frozen 1; have q2 := (D1.out.blk _ (List.mem_cons_of_mem _ (List.mem_cons_of_mem _ (List.mem_cons_self)))).2.cell 2 _ rfl; have qz2 := (D1.out.blk _ (List.mem_cons_of_mem _ (List.mem_cons_of_mem _ (List.mem_cons_self)))).2.frozen 2; have qlt := (D1.out).bl (List.mem_cons_of_mem _ (List.mem_cons_of_mem _ (List.mem_cons_self))))) | (go_at_call 44; go_loud (with_reducible refine (GR.out _ _ (Blk.new _ [.int .i64 k0, .int .i64 n0, .string s0, .int .i64 k1, .int .i64 n1, .string s1, .int .i64 k2, .int .i64 n2, .string s2] 32)).mono ?_; rintro e wn ⟨rfl, hb⟩; have D2 := Lib.hid ((D1.out.new 32 [.int .i64 k0, .int .i64 n0, .string s0, .int .i64 k1, .int .i64 n1, .string s1, .int .i64 k2, .int .i64 n2, .string s2]).on hb); clear hb; have v0 := (D2.out.blk _ (List.mem_cons_of_mem _ (List.mem_cons_self))).2.cell 0 _ rfl; have vz0 := (D2.out.blk _ (List.mem_cons_of_mem _ (List.mem_cons_self))).2.frozen 0; have v1 := (D2.out.blk _ (List.mem_cons_of_mem _ (List.mem_cons_self))).2.cell 1 _ rfl; have vz1 := (D2.out.blk _ (List.mem_cons_of_mem _ (List.mem_cons_self))).2.frozen 1; have v2 := (D2.out.blk _ (List.mem_cons_of_mem _ (List.mem_cons_self))).2.cell 2 _ rfl; have vz2 := (D2.out.blk _ (List.mem_cons_of_mem _ (List.mem_cons_self))).2.frozen 2; have vlt := (D2.out).bl (List.mem_cons_of_mem _ (List.mem_cons_self)); have u0 := (D2.out.blk _ (List.mem_cons_of_mem _ (List.mem_cons_of_mem _ (List.mem_cons_self)))).2.cell 0 _ rfl; have uz0 := (D2.out.blk _ (List.mem_cons_of_mem _ (List.mem_cons_of_mem _ (List.mem_cons_self)))).2.frozen 0; have u1 := (D2.out.blk _ (List.mem_cons_of_mem _ (List.mem_cons_of_mem _ (List.mem_cons_self)))).2.cell 1 _ rfl; have uz1 := (D2.out.blk _ (List.mem_cons_of_mem _ (List.mem_cons_of_mem _ (List.mem_cons_self)))).2.frozen 1; have u2 := (D2.out.blk _ (List.mem_cons_of_mem _ (List.mem_cons_of_mem _ (List.mem_cons_self)))).2.cell 2 _ rfl; have uz2 := (D2.out.blk _ (List.mem_cons_of_mem _ (List.mem_cons_of_mem _ (List.mem_cons_self)))).2.frozen 2; have ult := (D2.out).bl (List.mem_cons_of_mem _ (List.mem_cons_of_mem _ (List.mem_cons_self))); have q0 := (D2.out.blk _ (List.mem_cons_of_mem _ (List.mem_cons_of_mem _ (List.mem_cons_of_mem _ (List.mem_cons_self))))).2.cell 0 _ rfl; have qz0 := (D2.out.blk _ (List.mem_cons_of_mem _ (List.mem_cons_of_mem _ (List.mem_cons_of_mem _ (List.mem_cons_self))))).2.frozen 0; have q1 := (D2.out.blk _ (List.mem_cons_of_mem _ (List.mem_cons_of_mem _ (List.mem_cons_of_mem _ (List.mem_cons_self))))).2.cell 1 _ rfl; have qz1 := (D2.out.blk _ (List.mem_cons_of_mem _ (List.mem_cons_of_mem _ (List.mem_cons_of_mem _ (List.mem_cons_self))))).2.frozen 1; have q2 := (D2.out.blk _ (List.mem_cons_of_mem _ (List.mem_cons_of_mem _ (List.mem_cons_of_mem _ (List.mem_cons_self))))).2.cell 2 _ rfl; have qz2 := (D2.out.blk _ (List.mem_cons_of_mem _ (List.mem_cons_of_mem _ (List.mem_cons_of_mem _ (List.mem_cons_self))))).2.frozen 2; have qlt := (D2.out).bl (List.mem_cons_of_mem _ (List.mem_cons_of_mem _ (List.mem_cons_of_mem _ (List.mem_cons_self)))))) | (go_at_call 46; go_loud (with_reducible refine (X1.out _ (T0.out.on (D2.out).bel)).mono ?_; rintro e wn3 ⟨rfl, hb⟩; have D3 := Lib.hid ((D2.out).on hb); clear hb; have v0 := (D3.out.blk _ (List.mem_cons_of_mem _ (List.mem_cons_self))).2.cell 0 _ rfl; have vz0 := (D3.out.blk _ (List.mem_cons_of_mem _ (List.mem_cons_self))).2.frozen 0; have v1 := (D3.out.blk _ (List.mem_cons_of_mem _ (List.mem_cons_self))).2.cell 1 _ rfl; have vz1 := (D3.out.blk _ (List.mem_cons_of_mem _ (List.mem_cons_self))).2.frozen 1; have v2 := (D3.out.blk _ (List.mem_cons_of_mem _ (List.mem_cons_self))).2.cell 2 _ rfl; have vz2 := (D3.out.blk _ (List.mem_cons_of_mem _ (List.mem_cons_self))).2.frozen 2; have vlt := (D3.out).bl (List.mem_cons_of_mem _ (List.mem_cons_self)); have u0 := (D3.out.blk _ (List.mem_cons_of_mem _ (List.mem_cons_of_mem _ (List.mem_cons_self)))).2.cell 0 _ rfl; have uz0 := (D3.out.blk _ (List.mem_cons_of_mem _ (List.mem_cons_of_mem _ (List.mem_cons_self)))).2.frozen 0; have u1 := (D3.out.blk _ (List.mem_cons_of_mem _ (List.mem_cons_of_mem _ (List.mem_cons_self)))).2.cell 1 _ rfl; have uz1 := (D3.out.blk _ (List.mem_cons_of_mem _ (List.mem_cons_of_mem _ (List.mem_cons_self)))).2.frozen 1; have u2 := (D3.out.blk _ (List.mem_cons_of_mem _ (List.mem_cons_of_mem _ (List.mem_cons_self)))).2.cell 2 _ rfl; have uz2 := (D3.out.blk _ (List.mem_cons_of_mem _ (List.mem_cons_of_mem _ (List.mem_cons_self)))).2.frozen 2; have ult := (D3.out).bl (List.mem_cons_of_mem _ (List.mem_cons_of_mem _ (List.mem_cons_self))); have q0 := (D3.out.blk _ (List.mem_cons_of_mem _ (List.mem_cons_of_mem _ (List.mem_cons_of_mem _ (List.mem_cons_self))))).2.cell 0 _ rfl; have qz0 := (D3.out.blk _ (List.mem_cons_of_mem _ (List.mem_cons_of_mem _ (List.mem_cons_of_mem _ (List.mem_cons_self))))).2.frozen 0; have q1 := (D3.out.blk _ (List.mem_cons_of_mem _ (List.mem_cons_of_mem _ (List.mem_cons_of_mem _ (List.mem_cons_self))))).2.cell 1 _ rfl; have qz1 := (D3.out.blk _ (List.mem_cons_of_mem _ (List.mem_cons_of_mem _ (List.mem_cons_of_mem _ (List.mem_cons_self))))).2.frozen 1; have q2 := (D3.out.blk _ (List.mem_cons_of_mem _ (List.mem_cons_of_mem _ (List.mem_cons_of_mem _ (List.mem_cons_self))))).2.cell 2 _ rfl; have qz2 := (D3.out.blk _ (List.mem_cons_of_mem _ (List.mem_cons_of_mem _ (List.mem_cons_of_mem _ (List.mem_cons_self))))).2.frozen 2; have qlt := (D3.out).bl (List.mem_cons_of_mem _ (List.mem_cons_of_mem _ (List.mem_cons_of_mem _ (List.mem_cons_self)))))) | (go_at_call 46; go_loud (with_reducible refine (X2.out _ (T0.out.on (D3.out.new 32 [.int .i64 3, .int .i64 0, .string (A ++ B)]).bel)).mono ?_; rintro e wn4 ⟨rfl, hb⟩; have D4 := Lib.hid ((D3.out.new 32 [.int .i64 3, .int .i64 0, .string (A ++ B)]).on hb); clear hb; have ab0 := (D4.out.blk _ (List.mem_cons_self)).2.cell 0 _ rfl; have abz0 := (D4.out.blk _ (List.mem_cons_self)).2.frozen 0; have ab1 := (D4.out.blk _ (List.mem_cons_self)).2.cell 1 _ rfl; have abz1 := (D4.out.blk _ (List.mem_cons_self)).2.frozen 1; have ab2 := (D4.out.blk _ (List.mem_cons_self)).2.cell 2 _ rfl; have abz2 := (D4.out.blk _ (List.mem_cons_self)).2.frozen 2; have ablt := (D4.out).bl (List.mem_cons_self); have v0 := (D4.out.blk _ (List.mem_cons_of_mem _ (List.mem_cons_of_mem _ (List.mem_cons_self)))).2.cell 0 _ rfl; have vz0 := (D4.out.blk _ (List.mem_cons_of_mem _ (List.mem_cons_of_mem _ (List.mem_cons_self)))).2.frozen 0; have v1 := (D4.out.blk _ (List.mem_cons_of_mem _ (List.mem_cons_of_mem _ (List.mem_cons_self)))).2.cell 1 _ rfl; have vz1 := (D4.out.blk _ (List.mem_cons_of_mem _ (List.mem_cons_of_mem _ (List.mem_cons_self)))).2.frozen 1; have v2 := (D4.out.blk _ (List.mem_cons_of_mem _ (List.mem_cons_of_mem _ (List.mem_cons_self)))).2.cell 2 _ rfl; have vz2 := (D4.out.blk _ (List.mem_cons_of_mem _ (List.mem_cons_of_mem _ (List.mem_cons_self)))).2.frozen 2; have vlt := (D4.out).bl (List.mem_cons_of_mem _ (List.mem_cons_of_mem _ (List.mem_cons_self))); have u0 := (D4.out.blk _ (List.mem_cons_of_mem _ (List.mem_cons_of_mem _ (List.mem_cons_of_mem _ (List.mem_cons_self))))).2.cell 0 _ rfl; have uz0 := (D4.out.blk _ (List.mem_cons_of_mem _ (List.mem_cons_of_mem _ (List.mem_cons_of_mem _ (List.mem_cons_self))))).2.frozen 0; have u1 := (D4.out.blk _ (List.mem_cons_of_mem _ (List.mem_cons_of_mem _ (List.mem_cons_of_mem _ (List.mem_cons_self))))).2.cell 1 _ rfl; have uz1 := (D4.out.blk _ (List.mem_cons_of_mem _ (List.mem_cons_of_mem _ (List.mem_cons_of_mem _ (List.mem_cons_self))))).2.frozen 1; have u2 := (D4.out.blk _ (List.mem_cons_of_mem _ (List.mem_cons_of_mem _ (List.mem_cons_of_mem _ (List.mem_cons_self))))).2.cell 2 _ rfl; have uz2 := (D4.out.blk _ (List.mem_cons_of_mem _ (List.mem_cons_of_mem _ (List.mem_cons_of_mem _ (List.mem_cons_self))))).2.frozen 2; have ult := (D4.out).bl (List.mem_cons_of_mem _ (List.mem_cons_of_mem _ (List.mem_cons_of_mem _ (List.mem_cons_self)))); have q0 := (D4.out.blk _ (List.mem_cons_of_mem _ (List.mem_cons_of_mem _ (List.mem_cons_of_mem _ (List.mem_cons_of_mem _ (List.mem_cons_self)))))).2.cell 0 _ rfl; have qz0 := (D4.out.blk _ (List.mem_cons_of_mem _ (List.mem_cons_of_mem _ (List.mem_cons_of_mem _ (List.mem_cons_of_mem _ (List.mem_cons_self)))))).2.frozen 0; have q1 := (D4.out.blk _ (List.mem_cons_of_mem _ (List.mem_cons_of_mem _ (List.mem_cons_of_mem _ (List.mem_cons_of_mem _ (List.mem_cons_self)))))).2.cell 1 _ rfl; have qz1 := (D4.out.blk _ (List.mem_cons_of_mem _ (List.mem_cons_of_mem _ (List.mem_cons_of_mem _ (List.mem_cons_of_mem _ (List.mem_cons_self)))))).2.frozen 1; have q2 := (D4.out.blk _ (List.mem_cons_of_mem _ (List.mem_cons_of_mem _ (List.mem_cons_of_mem _ (List.mem_cons_of_mem _ (List.mem_cons_self)))))).2.cell 2 _ rfl; have qz2 := (D4.out.blk _ (List.mem_cons_of_mem _ (List.mem_cons_of_mem _ (List.mem_cons_of_mem _ (List.mem_cons_of_mem _ (List.mem_cons_self)))))).2.frozen 2; have qlt := (D4.out).bl (List.mem_cons_of_mem _ (List.mem_cons_of_mem _ (List.mem_cons_of_mem _ (List.mem_cons_of_mem _ (List.mem_cons_self))))))) | (go_at_call 46; go_loud (with_reducible refine (X3.out _ (T0.out.on (D4.out.new 32 [.int .i64 3, .int .i64 0, .string (B ++ C)]).bel)).mono ?_; rintro e wn5 ⟨rfl, hb⟩; have D5 := Lib.hid ((D4.out.new 32 [.int .i64 3, .int .i64 0, .string (B ++ C)]).on hb); clear hb; have bc0 := (D5.out.blk _ (List.mem_cons_self)).2.cell 0 _ rfl; have bcz0 := (D5.out.blk _ (List.mem_cons_self)).2.frozen 0; have bc1 := (D5.out.blk _ (List.mem_cons_self)).2.cell 1 _ rfl; have bcz1 := (D5.out.blk _ (List.mem_cons_self)).2.frozen 1; have bc2 := (D5.out.blk _ (List.mem_cons_self)).2.cell 2 _ rfl; have bcz2 := (D5.out.blk _ (List.mem_cons_self)).2.frozen 2; have bclt := (D5.out).bl (List.mem_cons_self); have ab0 := (D5.out.blk _ (List.mem_cons_of_mem _ (List.mem_cons_self))).2.cell 0 _ rfl; have abz0 := (D5.out.blk _ (List.mem_cons_of_mem _ (List.mem_cons_self))).2.frozen 0; have ab1 := (D5.out.blk _ (List.mem_cons_of_mem _ (List.mem_cons_self))).2.cell 1 _ rfl; have abz1 := (D5.out.blk _ (List.mem_cons_of_mem _ (List.mem_cons_self))).2.frozen 1; have ab2 := (D5.out.blk _ (List.mem_cons_of_mem _ (List.mem_cons_self))).2.cell 2 _ rfl; have abz2 := (D5.out.blk _ (List.mem_cons_of_mem _ (List.mem_cons_self))).2.frozen 2; have ablt := (D5.out).bl (List.mem_cons_of_mem _ (List.mem_cons_self)); have v0 := (D5.out.blk _ (List.mem_cons_of_mem _ (List.mem_cons_of_mem _ (List.mem_cons_of_mem _ (List.mem_cons_self))))).2.cell 0 _ rfl; have vz0 := (D5.out.blk _ (List.mem_cons_of_mem _ (List.mem_cons_of_mem _ (List.mem_cons_of_mem _ (List.mem_cons_self))))).2.frozen 0; have v1 := (D5.out.blk _ (List.mem_cons_of_mem _ (List.mem_cons_of_mem _ (List.mem_cons_of_mem _ (List.mem_cons_self))))).2.cell 1 _ rfl; have vz1 := (D5.out.blk _ (List.mem_cons_of_mem _ (List.mem_cons_of_mem _ (List.mem_cons_of_mem _ (List.mem_cons_self))))).2.frozen 1; have v2 := (D5.out.blk _ (List.mem_cons_of_mem _ (List.mem_cons_of_mem _ (List.mem_cons_of_mem _ (List.mem_cons_self))))).2.cell 2 _ rfl; have vz2 := (D5.out.blk _ (List.mem_cons_of_mem _ (List.mem_cons_of_mem _ (List.mem_cons_of_mem _ (List.mem_cons_self))))).2.frozen 2; have vlt := (D5.out).bl (List.mem_cons_of_mem _ (List.mem_cons_of_mem _ (List.mem_cons_of_mem _ (List.mem_cons_self)))); have u0 := (D5.out.blk _ (List.mem_cons_of_mem _ (List.mem_cons_of_mem _ (List.mem_cons_of_mem _ (List.mem_cons_of_mem _ (List.mem_cons_self)))))).2.cell 0 _ rfl; have uz0 := (D5.out.blk _ (List.mem_cons_of_mem _ (List.mem_cons_of_mem _ (List.mem_cons_of_mem _ (List.mem_cons_of_mem _ (List.mem_cons_self)))))).2.frozen 0; have u1 := (D5.out.blk _ (List.mem_cons_of_mem _ (List.mem_cons_of_mem _ (List.mem_cons_of_mem _ (List.mem_cons_of_mem _ (List.mem_cons_self)))))).2.cell 1 _ rfl; have uz1 := (D5.out.blk _ (List.mem_cons_of_mem _ (List.mem_cons_of_mem _ (List.mem_cons_of_mem _ (List.mem_cons_of_mem _ (List.mem_cons_self)))))).2.frozen 1; have u2 := (D5.out.blk _ (List.mem_cons_of_mem _ (List.mem_cons_of_mem _ (List.mem_cons_of_mem _ (List.mem_cons_of_mem _ (List.mem_cons_self)))))).2.cell 2 _ rfl; have uz2 := (D5.out.blk _ (List.mem_cons_of_mem _ (List.mem_cons_of_mem _ (List.mem_cons_of_mem _ (List.mem_cons_of_mem _ (List.mem_cons_self)))))).2.frozen 2; have ult := (D5.out).bl (List.mem_cons_of_mem _ (List.mem_cons_of_mem _ (List.mem_cons_of_mem _ (List.mem_cons_of_mem _ (List.mem_cons_self))))); have q0 := (D5.out.blk _ (List.mem_cons_of_mem _ (List.mem_cons_of_mem _ (List.mem_cons_of_mem _ (List.mem_cons_of_mem _ (List.mem_cons_of_mem _ (List.mem_cons_self))))))).2.cell 0 _ rfl; have qz0 := (D5.out.blk _ (List.mem_cons_of_mem _ (List.mem_cons_of_mem _ (List.mem_cons_of_mem _ (List.mem_cons_of_mem _ (List.mem_cons_of_mem _ (List.mem_cons_self))))))).2.frozen 0; have q1 := (D5.out.blk _ (List.mem_cons_of_mem _ (List.mem_cons_of_mem _ (List.mem_cons_of_mem _ (List.mem_cons_of_mem _ (List.mem_cons_of_mem _ (List.mem_cons_self))))))).2.cell 1 _ rfl; have qz1 := (D5.out.blk _ (List.mem_cons_of_mem _ (List.mem_cons_of_mem _ (List.mem_cons_of_mem _ (List.mem_cons_of_mem _ (List.mem_cons_of_mem _ (List.mem_cons_self))))))).2.frozen 1; have q2 := (D5.out.blk _ (List.mem_cons_of_mem _ (List.mem_cons_of_mem _ (List.mem_cons_of_mem _ (List.mem_cons_of_mem _ (List.mem_cons_of_mem _ (List.mem_cons_self))))))).2.cell 2 _ rfl; have qz2 := (D5.out.blk _ (List.mem_cons_of_mem _ (List.mem_cons_of_mem _ (List.mem_cons_of_mem _ (List.mem_cons_of_mem _ (List.mem_cons_of_mem _ (List.mem_cons_self))))))).2.frozen 2; have qlt := (D5.out).bl (List.mem_cons_of_mem _ (List.mem_cons_of_mem _ (List.mem_cons_of_mem _ (List.mem_cons_of_mem _ (List.mem_cons_of_mem _ (List.mem_cons_self)))))))) | (go_at_call 46; go_loud (with_reducible refine (X4.out _ (T0.out.on (D5.out.new 32 [.int .i64 3, .int .i64 0, .string X]).bel)).mono ?_; rintro e wn6 ⟨rfl, hb⟩; have D6 := Lib.hid ((D5.out.new 32 [.int .i64 3, .int .i64 0, .string X]).on hb); clear hb)))
  have hu := Tryd.underlying32
  obtain ⟨w1, hw1_⟩ : ∃ z, z = wn6.alloc (.cells #[.int .i64 3, .int .i64 0, .string X] 32) := ⟨_, rfl⟩
  have D7 := Lib.hid (D6.out.new 32 [.int .i64 3, .int .i64 0, .string X])
  obtain ⟨x2, hx2_⟩ : ∃ z, z = wn6.heap.size := ⟨_, rfl⟩
  rw [← hw1_] at D7
  rw [← hx2_] at D7
  simp only [← hw1_, ← hx2_]
  clear hw1_ hx2_
  have hBA : Below w1.heap.size w1 ({ w1 with drawn := w1.drawn + 1 } : World) := ⟨rfl, rfl, rfl, Nat.le_refl _, fun _ _ => rfl⟩
  refine wp_region_held (S := Below w1.heap.size w1) (by kernel_rfl) ?_
  have hSA := hBA
  generalize ({ w1 with drawn := w1.drawn + 1 } : World) = wA at hSA hBA ⊢
  have hleA := D7.out.bel.size
  have hslA := hSA.size
  have qaA0 : ∀ W, Below w1.heap.size w1 W → W.cell? ⟨w.heap.size, 0, none⟩ = some (.int .i64 k0) := fun W hW => ((D7.out.on hW).blk _ (List.mem_cons_of_mem _ (List.mem_cons_of_mem _ (List.mem_cons_of_mem _ (List.mem_cons_of_mem _ (List.mem_cons_of_mem _ (List.mem_cons_of_mem _ (List.mem_cons_of_mem _ (List.mem_cons_self))))))))).2.cell 0 _ rfl
  have qaA1 : ∀ W, Below w1.heap.size w1 W → W.cell? ⟨w.heap.size, 1, none⟩ = some (.int .i64 n0) := fun W hW => ((D7.out.on hW).blk _ (List.mem_cons_of_mem _ (List.mem_cons_of_mem _ (List.mem_cons_of_mem _ (List.mem_cons_of_mem _ (List.mem_cons_of_mem _ (List.mem_cons_of_mem _ (List.mem_cons_of_mem _ (List.mem_cons_self))))))))).2.cell 1 _ rfl
  have qaA2 : ∀ W, Below w1.heap.size w1 W → W.cell? ⟨w.heap.size, 2, none⟩ = some (.string s0) := fun W hW => ((D7.out.on hW).blk _ (List.mem_cons_of_mem _ (List.mem_cons_of_mem _ (List.mem_cons_of_mem _ (List.mem_cons_of_mem _ (List.mem_cons_of_mem _ (List.mem_cons_of_mem _ (List.mem_cons_of_mem _ (List.mem_cons_self))))))))).2.cell 2 _ rfl
  refine takeH 0 (oi := ⟨some 63, _, _, _, _, _⟩) (v := ?_) rfl (by kernel_rfl) (by kernel_rfl) (by kernel_rfl) (fun _ _ _ h => h) (Or.inl ⟨by rfl, ?hyA1⟩) hSA ?restA1
  case hyA1 => (intro W hW; (try dsimp only at hW); go_simp; try with_reducible rfl)
  try simp only [Act.put, List.setIfInBounds_toArray, List.set_cons_zero, List.set_cons_succ]
  refine two (i := 1) (j := 6) (by kernel_rfl) ?_ ?_
  · refine wpOp_wanted rfl (by rfl) fun K hK => ?_
    go_simp
    with_reducible refine (hStr _ _).mono ?_
    rintro e wA2 ⟨rfl, hb⟩
    have SA2 : Below w1.heap.size w1 wA2 := hSA.trans (hb.mono hSA.size)
    clear hb
    refine hK _ _ ⟨SA2, ?_⟩
    clear hK K
    try simp only [Act.put, List.setIfInBounds_toArray, List.set_cons_zero, List.set_cons_succ]
    refine two (i := 2) (j := 6) (by kernel_rfl) ?_ ?_
    · refine wpOp_wanted rfl (by rfl) fun K hK => ?_
      go_simp
      with_reducible refine (X5.out _ (T0.out.on (D7.out.on SA2).bel)).mono ?_
      rintro e wA3 ⟨rfl, hb⟩
      have SA3 : Below w1.heap.size w1 wA3 := SA2.trans (hb.mono SA2.size)
      clear hb
      refine hK _ _ ⟨SA3, ?_⟩
      clear hK K
      try simp only [Act.put, List.setIfInBounds_toArray, List.set_cons_zero, List.set_cons_succ]
      refine takeH 3 (oi := ⟨some 62, _, _, _, _, _⟩) (v := ?_) rfl (by kernel_rfl) (by kernel_rfl) (by kernel_rfl) (fun _ _ _ h => h) (Or.inl ⟨by rfl, ?hyA4⟩) SA3 ?restA4
      case hyA4 => (intro W hW; (try dsimp only at hW); go_simp; try with_reducible rfl)
      try simp only [Act.put, List.setIfInBounds_toArray, List.set_cons_zero, List.set_cons_succ]
      refine takeH 4 (oi := ⟨some 66, _, _, _, _, _⟩) (v := ?_) rfl (by kernel_rfl) (by kernel_rfl) (by kernel_rfl) (fun _ _ _ h => h) (Or.inl ⟨by rfl, ?hyA5⟩) SA3 ?restA5
      case hyA5 => (intro W hW; (try dsimp only at hW); go_simp; try with_reducible rfl)
      try simp only [Act.put, List.setIfInBounds_toArray, List.set_cons_zero, List.set_cons_succ]
      refine takeH 5 (oi := ⟨some 67, _, _, _, _, _⟩) (v := ?_) rfl (by kernel_rfl) (by kernel_rfl) (by kernel_rfl) (fun _ _ _ h => h) (Or.inl ⟨by rfl, ?hyA6⟩) SA3 ?restA6
      case hyA6 => (intro W hW; (try dsimp only at hW); go_simp; try with_reducible rfl)
      try simp only [Act.put, List.setIfInBounds_toArray, List.set_cons_zero, List.set_cons_succ]
      refine one (i := 6) (by kernel_rfl) ?_
      refine wpOp_wanted rfl (by rfl) fun K hK => ?_
      go_simp
      have hzA7_6 : w1.heap.size ≤ wA3.heap.size := by have h := SA3.size; omega
      have SA7 : Below w1.heap.size w1 (wA3.alloc (.cells #[.int .i64 0, .int .i64 0, .string ⟨#[]⟩] 32)) := (bel1 SA3 _)
      have BA7_6 : Hid (Blk (wA3.alloc (.cells #[.int .i64 0, .int .i64 0, .string ⟨#[]⟩] 32)) (wA3.heap.size) 32 [.int .i64 0, .int .i64 0, .string ⟨#[]⟩]) := Lib.hid (by have h := Blk.new wA3 [.int .i64 0, .int .i64 0, .string ⟨#[]⟩] 32; exact h)
      refine hK _ _ ⟨SA7, ?_⟩
      clear hK K
      try simp only [Act.put, List.setIfInBounds_toArray, List.set_cons_zero, List.set_cons_succ]
      refine one (i := 7) (by kernel_rfl) ?_
      refine wpOp_wanted rfl (by rfl) fun K hK => ?_
      go_simp
      have SA8 : Below w1.heap.size w1 (wA3.alloc (.cells #[.int .i64 3, .int .i64 0, .string A] 32)) := (bel1 SA3 _)
      have BA8_6 : Hid (Blk (wA3.alloc (.cells #[.int .i64 3, .int .i64 0, .string A] 32)) (wA3.heap.size) 32 [.int .i64 3, .int .i64 0, .string A]) := Lib.hid (by have h := Blk.new wA3 [.int .i64 3, .int .i64 0, .string A] 32; exact h)
      refine hK _ _ ⟨SA8, ?_⟩
      clear hK K
      try simp only [Act.put, List.setIfInBounds_toArray, List.set_cons_zero, List.set_cons_succ]
      refine takeH 8 (oi := ⟨some 16, _, _, _, _, _⟩) (v := ?_) rfl (by kernel_rfl) (by kernel_rfl) (by kernel_rfl) (fun _ _ _ h => h) (Or.inl ⟨by rfl, ?hyA9⟩) SA8 ?restA9
      case hyA9 => (intro W hW; (try dsimp only at hW); go_simp; try with_reducible rfl)
      try simp only [Act.put, List.setIfInBounds_toArray, List.set_cons_zero, List.set_cons_succ]
      refine wpAnyH_done (by kernel_rfl) ?_ _
      clear qaA0 qaA1 qaA2
      have D8 := Lib.hid ((D7.out.on SA8).cons (p := (wA3.heap.size)) (by omega) BA8_6.out)
      generalize (wA3.alloc (.cells #[.int .i64 3, .int .i64 0, .string A] 32)) = W3 at D8 ⊢
      generalize (wA3.heap.size) = ps at D8 ⊢
      go_upto_region 12 with (fail)
      have hBB : Below W3.heap.size W3 ({ W3 with drawn := W3.drawn + 1 } : World) := ⟨rfl, rfl, rfl, Nat.le_refl _, fun _ _ => rfl⟩
      refine wp_region_held (S := Below W3.heap.size W3) (by kernel_rfl) ?_
      have hSB := hBB
      generalize ({ W3 with drawn := W3.drawn + 1 } : World) = wB at hSB hBB ⊢
      have hleB := D8.out.bel.size
      have hslB := hSB.size
      have saB0 : ∀ W, Below W3.heap.size W3 W → W.cell? ⟨ps, 0, none⟩ = some (.int .i64 3) := fun W hW => ((D8.out.on hW).blk _ (List.mem_cons_self)).2.cell 0 _ rfl
      have saB1 : ∀ W, Below W3.heap.size W3 W → W.cell? ⟨ps, 1, none⟩ = some (.int .i64 0) := fun W hW => ((D8.out.on hW).blk _ (List.mem_cons_self)).2.cell 1 _ rfl
      have saB2 : ∀ W, Below W3.heap.size W3 W → W.cell? ⟨ps, 2, none⟩ = some (.string A) := fun W hW => ((D8.out.on hW).blk _ (List.mem_cons_self)).2.cell 2 _ rfl
      have xbB0 : ∀ W, Below W3.heap.size W3 W → W.cell? ⟨x2, 0, none⟩ = some (.int .i64 3) := fun W hW => ((D8.out.on hW).blk _ (List.mem_cons_of_mem _ (List.mem_cons_self))).2.cell 0 _ rfl
      have xbB1 : ∀ W, Below W3.heap.size W3 W → W.cell? ⟨x2, 1, none⟩ = some (.int .i64 0) := fun W hW => ((D8.out.on hW).blk _ (List.mem_cons_of_mem _ (List.mem_cons_self))).2.cell 1 _ rfl
      have xbB2 : ∀ W, Below W3.heap.size W3 W → W.cell? ⟨x2, 2, none⟩ = some (.string X) := fun W hW => ((D8.out.on hW).blk _ (List.mem_cons_of_mem _ (List.mem_cons_self))).2.cell 2 _ rfl
      have xaB0 : ∀ W, Below W3.heap.size W3 W → W.cell? ⟨wn5.heap.size, 0, none⟩ = some (.int .i64 3) := fun W hW => ((D8.out.on hW).blk _ (List.mem_cons_of_mem _ (List.mem_cons_of_mem _ (List.mem_cons_self)))).2.cell 0 _ rfl
      have xaB1 : ∀ W, Below W3.heap.size W3 W → W.cell? ⟨wn5.heap.size, 1, none⟩ = some (.int .i64 0) := fun W hW => ((D8.out.on hW).blk _ (List.mem_cons_of_mem _ (List.mem_cons_of_mem _ (List.mem_cons_self)))).2.cell 1 _ rfl
      have xaB2 : ∀ W, Below W3.heap.size W3 W → W.cell? ⟨wn5.heap.size, 2, none⟩ = some (.string X) := fun W hW => ((D8.out.on hW).blk _ (List.mem_cons_of_mem _ (List.mem_cons_of_mem _ (List.mem_cons_self)))).2.cell 2 _ rfl
      have qaB0 : ∀ W, Below W3.heap.size W3 W → W.cell? ⟨w.heap.size, 0, none⟩ = some (.int .i64 k0) := fun W hW => ((D8.out.on hW).blk _ (List.mem_cons_of_mem _ (List.mem_cons_of_mem _ (List.mem_cons_of_mem _ (List.mem_cons_of_mem _ (List.mem_cons_of_mem _ (List.mem_cons_of_mem _ (List.mem_cons_of_mem _ (List.mem_cons_of_mem _ (List.mem_cons_self)))))))))).2.cell 0 _ rfl
      have qaB1 : ∀ W, Below W3.heap.size W3 W → W.cell? ⟨w.heap.size, 1, none⟩ = some (.int .i64 n0) := fun W hW => ((D8.out.on hW).blk _ (List.mem_cons_of_mem _ (List.mem_cons_of_mem _ (List.mem_cons_of_mem _ (List.mem_cons_of_mem _ (List.mem_cons_of_mem _ (List.mem_cons_of_mem _ (List.mem_cons_of_mem _ (List.mem_cons_of_mem _ (List.mem_cons_self)))))))))).2.cell 1 _ rfl
      have qaB2 : ∀ W, Below W3.heap.size W3 W → W.cell? ⟨w.heap.size, 2, none⟩ = some (.string s0) := fun W hW => ((D8.out.on hW).blk _ (List.mem_cons_of_mem _ (List.mem_cons_of_mem _ (List.mem_cons_of_mem _ (List.mem_cons_of_mem _ (List.mem_cons_of_mem _ (List.mem_cons_of_mem _ (List.mem_cons_of_mem _ (List.mem_cons_of_mem _ (List.mem_cons_self)))))))))).2.cell 2 _ rfl
      refine takeH 0 (oi := ⟨some 68, _, _, _, _, _⟩) (v := ?_) rfl (by kernel_rfl) (by kernel_rfl) (by kernel_rfl) (fun _ _ _ h => h) (Or.inl ⟨by rfl, ?hyB10⟩) hSB ?restB10
      case hyB10 => (intro W hW; (try dsimp only at hW); go_simp; try with_reducible rfl)
      try simp only [Act.put, List.setIfInBounds_toArray, List.set_cons_zero, List.set_cons_succ]
      refine takeH 1 (oi := ⟨some 69, _, _, _, _, _⟩) (v := ?_) rfl (by kernel_rfl) (by kernel_rfl) (by kernel_rfl) (fun _ _ _ h => h) (Or.inl ⟨by rfl, ?hyB11⟩) hSB ?restB11
      case hyB11 => (intro W hW; (try dsimp only at hW); go_simp; try with_reducible rfl)
      try simp only [Act.put, List.setIfInBounds_toArray, List.set_cons_zero, List.set_cons_succ]
      refine takeH 2 (oi := ⟨some 70, _, _, _, _, _⟩) (v := ?_) rfl (by kernel_rfl) (by kernel_rfl) (by kernel_rfl) (fun _ _ _ h => h) (Or.inl ⟨by rfl, ?hyB12⟩) hSB ?restB12
      case hyB12 => (intro W hW; (try dsimp only at hW); go_simp; try with_reducible rfl)
      try simp only [Act.put, List.setIfInBounds_toArray, List.set_cons_zero, List.set_cons_succ]
      refine takeH 3 (oi := ⟨some 71, _, _, _, _, _⟩) (v := ?_) rfl (by kernel_rfl) (by kernel_rfl) (by kernel_rfl) (fun _ _ _ h => h) (Or.inl ⟨by rfl, ?hyB13⟩) hSB ?restB13
      case hyB13 => (intro W hW; (try dsimp only at hW); go_simp; try with_reducible rfl)
      try simp only [Act.put, List.setIfInBounds_toArray, List.set_cons_zero, List.set_cons_succ]
      refine takeH 4 (oi := ⟨some 72, _, _, _, _, _⟩) (v := ?_) rfl (by kernel_rfl) (by kernel_rfl) (by kernel_rfl) (fun _ _ _ h => h) (Or.inl ⟨by rfl, ?hyB14⟩) hSB ?restB14
      case hyB14 => (intro W hW; (try dsimp only at hW); go_simp; try with_reducible rfl)
      try simp only [Act.put, List.setIfInBounds_toArray, List.set_cons_zero, List.set_cons_succ]
      refine takeH 5 (oi := ⟨some 73, _, _, _, _, _⟩) (v := ?_) rfl (by kernel_rfl) (by kernel_rfl) (by kernel_rfl) (fun _ _ _ h => h) (Or.inl ⟨by rfl, ?hyB15⟩) hSB ?restB15
      case hyB15 => (intro W hW; (try dsimp only at hW); go_simp; try with_reducible rfl)
      try simp only [Act.put, List.setIfInBounds_toArray, List.set_cons_zero, List.set_cons_succ]
      refine takeH 6 (oi := ⟨some 74, _, _, _, _, _⟩) (v := ?_) rfl (by kernel_rfl) (by kernel_rfl) (by kernel_rfl) (fun _ _ _ h => h) (Or.inl ⟨by rfl, ?hyB16⟩) hSB ?restB16
      case hyB16 => (intro W hW; (try dsimp only at hW); go_simp; try with_reducible rfl)
      try simp only [Act.put, List.setIfInBounds_toArray, List.set_cons_zero, List.set_cons_succ]
      refine takeH 7 (oi := ⟨some 75, _, _, _, _, _⟩) (v := ?_) rfl (by kernel_rfl) (by kernel_rfl) (by kernel_rfl) (fun _ _ _ h => h) (Or.inl ⟨by rfl, ?hyB17⟩) hSB ?restB17
      case hyB17 => (intro W hW; (try dsimp only at hW); go_simp; try with_reducible rfl)
      try simp only [Act.put, List.setIfInBounds_toArray, List.set_cons_zero, List.set_cons_succ]
      refine takeH 8 (oi := ⟨some 76, _, _, _, _, _⟩) (v := ?_) rfl (by kernel_rfl) (by kernel_rfl) (by kernel_rfl) (fun _ _ _ h => h) (Or.inl ⟨by rfl, ?hyB18⟩) hSB ?restB18
      case hyB18 => (intro W hW; (try dsimp only at hW); go_simp; try with_reducible rfl)
      try simp only [Act.put, List.setIfInBounds_toArray, List.set_cons_zero, List.set_cons_succ]
      refine takeH 9 (oi := ⟨some 77, _, _, _, _, _⟩) (v := ?_) rfl (by kernel_rfl) (by kernel_rfl) (by kernel_rfl) (fun _ _ _ h => h) (Or.inl ⟨by rfl, ?hyB19⟩) hSB ?restB19
      case hyB19 => (intro W hW; (try dsimp only at hW); go_simp; try with_reducible rfl)
      try simp only [Act.put, List.setIfInBounds_toArray, List.set_cons_zero, List.set_cons_succ]
      refine takeH 10 (oi := ⟨some 78, _, _, _, _, _⟩) (v := ?_) rfl (by kernel_rfl) (by kernel_rfl) (by kernel_rfl) (fun _ _ _ h => h) (Or.inl ⟨by rfl, ?hyB20⟩) hSB ?restB20
      case hyB20 => (intro W hW; (try dsimp only at hW); go_simp; try with_reducible rfl)
      try simp only [Act.put, List.setIfInBounds_toArray, List.set_cons_zero, List.set_cons_succ]
      refine takeH 11 (oi := ⟨some 79, _, _, _, _, _⟩) (v := ?_) rfl (by kernel_rfl) (by kernel_rfl) (by kernel_rfl) (fun _ _ _ h => h) (Or.inl ⟨by rfl, ?hyB21⟩) hSB ?restB21
      case hyB21 => (intro W hW; (try dsimp only at hW); go_simp; try with_reducible rfl)
      try simp only [Act.put, List.setIfInBounds_toArray, List.set_cons_zero, List.set_cons_succ]
      refine takeH 12 (oi := ⟨some 80, _, _, _, _, _⟩) (v := ?_) rfl (by kernel_rfl) (by kernel_rfl) (by kernel_rfl) (fun _ _ _ h => h) (Or.inl ⟨by rfl, ?hyB22⟩) hSB ?restB22
      case hyB22 => (intro W hW; (try dsimp only at hW); go_simp; try with_reducible rfl)
      try simp only [Act.put, List.setIfInBounds_toArray, List.set_cons_zero, List.set_cons_succ]
      refine takeH 13 (oi := ⟨some 81, _, _, _, _, _⟩) (v := ?_) rfl (by kernel_rfl) (by kernel_rfl) (by kernel_rfl) (fun _ _ _ h => h) (Or.inl ⟨by rfl, ?hyB23⟩) hSB ?restB23
      case hyB23 => (intro W hW; (try dsimp only at hW); go_simp; try with_reducible rfl)
      try simp only [Act.put, List.setIfInBounds_toArray, List.set_cons_zero, List.set_cons_succ]
      refine takeH 14 (oi := ⟨some 82, _, _, _, _, _⟩) (v := ?_) rfl (by kernel_rfl) (by kernel_rfl) (by kernel_rfl) (fun _ _ _ h => h) (Or.inl ⟨by rfl, ?hyB24⟩) hSB ?restB24
      case hyB24 => (intro W hW; (try dsimp only at hW); go_simp; try with_reducible rfl)
      try simp only [Act.put, List.setIfInBounds_toArray, List.set_cons_zero, List.set_cons_succ]
      refine takeH 15 (oi := ⟨some 83, _, _, _, _, _⟩) (v := ?_) rfl (by kernel_rfl) (by kernel_rfl) (by kernel_rfl) (fun _ _ _ h => h) (Or.inl ⟨by rfl, ?hyB25⟩) hSB ?restB25
      case hyB25 => (intro W hW; (try dsimp only at hW); go_simp; try with_reducible rfl)
      try simp only [Act.put, List.setIfInBounds_toArray, List.set_cons_zero, List.set_cons_succ]
      refine takeH 16 (oi := ⟨some 84, _, _, _, _, _⟩) (v := ?_) rfl (by kernel_rfl) (by kernel_rfl) (by kernel_rfl) (fun _ _ _ h => h) (Or.inl ⟨by rfl, ?hyB26⟩) hSB ?restB26
      case hyB26 => (intro W hW; (try dsimp only at hW); go_simp; try with_reducible rfl)
      try simp only [Act.put, List.setIfInBounds_toArray, List.set_cons_zero, List.set_cons_succ]
      refine takeH 17 (oi := ⟨some 85, _, _, _, _, _⟩) (v := ?_) rfl (by kernel_rfl) (by kernel_rfl) (by kernel_rfl) (fun _ _ _ h => h) (Or.inl ⟨by rfl, ?hyB27⟩) hSB ?restB27
      case hyB27 => (intro W hW; (try dsimp only at hW); go_simp; try with_reducible rfl)
      try simp only [Act.put, List.setIfInBounds_toArray, List.set_cons_zero, List.set_cons_succ]
      refine one (i := 18) (by kernel_rfl) ?_
      refine wpOp_wanted rfl (by rfl) fun K hK => ?_
      go_simp
      with_reducible refine (PR0.out _ (T0.out.on (D8.out.on hSB).bel)).mono ?_
      rintro e wB28 ⟨rfl, hb⟩
      have SB28 : Below W3.heap.size W3 wB28 := hSB.trans (hb.mono hSB.size)
      clear hb
      refine hK _ _ ⟨SB28, ?_⟩
      clear hK K
      try simp only [Act.put, List.setIfInBounds_toArray, List.set_cons_zero, List.set_cons_succ]
      refine one (i := 19) (by kernel_rfl) ?_
      refine wpOp_wanted rfl (by rfl) fun K hK => ?_
      go_simp
      with_reducible refine (hStr A _).mono ?_
      rintro e wB29 ⟨rfl, hb⟩
      have SB29 : Below W3.heap.size W3 wB29 := SB28.trans (hb.mono SB28.size)
      clear hb
      refine hK _ _ ⟨SB29, ?_⟩
      clear hK K
      try simp only [Act.put, List.setIfInBounds_toArray, List.set_cons_zero, List.set_cons_succ]
      refine takeH 20 (oi := ⟨some 88, _, _, _, _, _⟩) (v := ?_) rfl (by kernel_rfl) (by kernel_rfl) (by kernel_rfl) (fun _ _ _ h => h) (Or.inl ⟨by rfl, ?hyB30⟩) SB29 ?restB30
      case hyB30 => (intro W hW; (try dsimp only at hW); go_simp; try with_reducible rfl)
      try simp only [Act.put, List.setIfInBounds_toArray, List.set_cons_zero, List.set_cons_succ]
      refine takeH 21 (oi := ⟨some 89, _, _, _, _, _⟩) (v := ?_) rfl (by kernel_rfl) (by kernel_rfl) (by kernel_rfl) (fun _ _ _ h => h) (Or.inl ⟨by rfl, ?hyB31⟩) SB29 ?restB31
      case hyB31 => (intro W hW; (try dsimp only at hW); go_simp; try with_reducible rfl)
      try simp only [Act.put, List.setIfInBounds_toArray, List.set_cons_zero, List.set_cons_succ]
      refine wpAnyH_done (by kernel_rfl) ?_ _
      clear saB0 saB1 saB2 xbB0 xbB1 xbB2 xaB0 xaB1 xaB2 qaB0 qaB1 qaB2
      have D9 := Lib.hid (D8.out.on SB29)
      generalize wB29 = W4 at D9 ⊢
      have xa0 := (D9.out.blk _ (List.mem_cons_of_mem _ (List.mem_cons_of_mem _ (List.mem_cons_self)))).2.cell 0 _ rfl; have xaz0 := (D9.out.blk _ (List.mem_cons_of_mem _ (List.mem_cons_of_mem _ (List.mem_cons_self)))).2.frozen 0; have xa1 := (D9.out.blk _ (List.mem_cons_of_mem _ (List.mem_cons_of_mem _ (List.mem_cons_self)))).2.cell 1 _ rfl; have xaz1 := (D9.out.blk _ (List.mem_cons_of_mem _ (List.mem_cons_of_mem _ (List.mem_cons_self)))).2.frozen 1; have xa2 := (D9.out.blk _ (List.mem_cons_of_mem _ (List.mem_cons_of_mem _ (List.mem_cons_self)))).2.cell 2 _ rfl; have xaz2 := (D9.out.blk _ (List.mem_cons_of_mem _ (List.mem_cons_of_mem _ (List.mem_cons_self)))).2.frozen 2; have xalt := (D9.out).bl (List.mem_cons_of_mem _ (List.mem_cons_of_mem _ (List.mem_cons_self)))
      go_upto_region 15 with (go_at_call 56; go_loud (with_reducible refine (ON.out _ (T0.out.on D9.out.bel)).mono ?_; rintro e wn ⟨rfl, hb⟩; have D10 := Lib.hid ((D9.out).on hb); clear hb))
      have D11 := Lib.hid (D10.out.new 32 [.int .i64 2, .int .i64 ((A.size : Int) + (B.size : Int) + (C.size : Int)), .string ⟨#[]⟩])
      obtain ⟨w5, hw5⟩ : ∃ z, z = wn.alloc (.cells #[.int .i64 2, .int .i64 ((A.size : Int) + (B.size : Int) + (C.size : Int)), .string ⟨#[]⟩] 32) := ⟨_, rfl⟩
      obtain ⟨xn, hxn⟩ : ∃ z, z = wn.heap.size := ⟨_, rfl⟩
      rw [← hw5] at D11
      rw [← hxn] at D11
      simp only [← hw5, ← hxn]
      clear hw5 hxn
      have hBE : Below w5.heap.size w5 ({ w5 with drawn := w5.drawn + 1 } : World) := ⟨rfl, rfl, rfl, Nat.le_refl _, fun _ _ => rfl⟩
      refine wp_region_held (S := Below w5.heap.size w5) (by kernel_rfl) ?_
      have hSE := hBE
      generalize ({ w5 with drawn := w5.drawn + 1 } : World) = wE at hSE hBE ⊢
      have hleE := D11.out.bel.size
      have hslE := hSE.size
      have naE0 : ∀ W, Below w5.heap.size w5 W → W.cell? ⟨xn, 0, none⟩ = some (.int .i64 2) := fun W hW => ((D11.out.on hW).blk _ (List.mem_cons_self)).2.cell 0 _ rfl
      have naE1 : ∀ W, Below w5.heap.size w5 W → W.cell? ⟨xn, 1, none⟩ = some (.int .i64 ((A.size : Int) + (B.size : Int) + (C.size : Int))) := fun W hW => ((D11.out.on hW).blk _ (List.mem_cons_self)).2.cell 1 _ rfl
      have naE2 : ∀ W, Below w5.heap.size w5 W → W.cell? ⟨xn, 2, none⟩ = some (.string ⟨#[]⟩) := fun W hW => ((D11.out.on hW).blk _ (List.mem_cons_self)).2.cell 2 _ rfl
      have qaE0 : ∀ W, Below w5.heap.size w5 W → W.cell? ⟨w.heap.size, 0, none⟩ = some (.int .i64 k0) := fun W hW => ((D11.out.on hW).blk _ (List.mem_cons_of_mem _ (List.mem_cons_of_mem _ (List.mem_cons_of_mem _ (List.mem_cons_of_mem _ (List.mem_cons_of_mem _ (List.mem_cons_of_mem _ (List.mem_cons_of_mem _ (List.mem_cons_of_mem _ (List.mem_cons_of_mem _ (List.mem_cons_self))))))))))).2.cell 0 _ rfl
      have qaE1 : ∀ W, Below w5.heap.size w5 W → W.cell? ⟨w.heap.size, 1, none⟩ = some (.int .i64 n0) := fun W hW => ((D11.out.on hW).blk _ (List.mem_cons_of_mem _ (List.mem_cons_of_mem _ (List.mem_cons_of_mem _ (List.mem_cons_of_mem _ (List.mem_cons_of_mem _ (List.mem_cons_of_mem _ (List.mem_cons_of_mem _ (List.mem_cons_of_mem _ (List.mem_cons_of_mem _ (List.mem_cons_self))))))))))).2.cell 1 _ rfl
      have qaE2 : ∀ W, Below w5.heap.size w5 W → W.cell? ⟨w.heap.size, 2, none⟩ = some (.string s0) := fun W hW => ((D11.out.on hW).blk _ (List.mem_cons_of_mem _ (List.mem_cons_of_mem _ (List.mem_cons_of_mem _ (List.mem_cons_of_mem _ (List.mem_cons_of_mem _ (List.mem_cons_of_mem _ (List.mem_cons_of_mem _ (List.mem_cons_of_mem _ (List.mem_cons_of_mem _ (List.mem_cons_self))))))))))).2.cell 2 _ rfl
      have uaE0 : ∀ W, Below w5.heap.size w5 W → W.cell? ⟨w.heap.size + 1, 0, none⟩ = some (.int .i64 k1) := fun W hW => ((D11.out.on hW).blk _ (List.mem_cons_of_mem _ (List.mem_cons_of_mem _ (List.mem_cons_of_mem _ (List.mem_cons_of_mem _ (List.mem_cons_of_mem _ (List.mem_cons_of_mem _ (List.mem_cons_of_mem _ (List.mem_cons_of_mem _ (List.mem_cons_self)))))))))).2.cell 0 _ rfl
      have uaE1 : ∀ W, Below w5.heap.size w5 W → W.cell? ⟨w.heap.size + 1, 1, none⟩ = some (.int .i64 n1) := fun W hW => ((D11.out.on hW).blk _ (List.mem_cons_of_mem _ (List.mem_cons_of_mem _ (List.mem_cons_of_mem _ (List.mem_cons_of_mem _ (List.mem_cons_of_mem _ (List.mem_cons_of_mem _ (List.mem_cons_of_mem _ (List.mem_cons_of_mem _ (List.mem_cons_self)))))))))).2.cell 1 _ rfl
      have uaE2 : ∀ W, Below w5.heap.size w5 W → W.cell? ⟨w.heap.size + 1, 2, none⟩ = some (.string s1) := fun W hW => ((D11.out.on hW).blk _ (List.mem_cons_of_mem _ (List.mem_cons_of_mem _ (List.mem_cons_of_mem _ (List.mem_cons_of_mem _ (List.mem_cons_of_mem _ (List.mem_cons_of_mem _ (List.mem_cons_of_mem _ (List.mem_cons_of_mem _ (List.mem_cons_self)))))))))).2.cell 2 _ rfl
      have vaE0 : ∀ W, Below w5.heap.size w5 W → W.cell? ⟨w.heap.size + 1 + 1, 0, none⟩ = some (.int .i64 k2) := fun W hW => ((D11.out.on hW).blk _ (List.mem_cons_of_mem _ (List.mem_cons_of_mem _ (List.mem_cons_of_mem _ (List.mem_cons_of_mem _ (List.mem_cons_of_mem _ (List.mem_cons_of_mem _ (List.mem_cons_of_mem _ (List.mem_cons_self))))))))).2.cell 0 _ rfl
      have vaE1 : ∀ W, Below w5.heap.size w5 W → W.cell? ⟨w.heap.size + 1 + 1, 1, none⟩ = some (.int .i64 n2) := fun W hW => ((D11.out.on hW).blk _ (List.mem_cons_of_mem _ (List.mem_cons_of_mem _ (List.mem_cons_of_mem _ (List.mem_cons_of_mem _ (List.mem_cons_of_mem _ (List.mem_cons_of_mem _ (List.mem_cons_of_mem _ (List.mem_cons_self))))))))).2.cell 1 _ rfl
      have vaE2 : ∀ W, Below w5.heap.size w5 W → W.cell? ⟨w.heap.size + 1 + 1, 2, none⟩ = some (.string s2) := fun W hW => ((D11.out.on hW).blk _ (List.mem_cons_of_mem _ (List.mem_cons_of_mem _ (List.mem_cons_of_mem _ (List.mem_cons_of_mem _ (List.mem_cons_of_mem _ (List.mem_cons_of_mem _ (List.mem_cons_of_mem _ (List.mem_cons_self))))))))).2.cell 2 _ rfl
      refine takeH 0 (oi := ⟨some 95, _, _, _, _, _⟩) (v := ?_) rfl (by kernel_rfl) (by kernel_rfl) (by kernel_rfl) (fun _ _ _ h => h) (Or.inl ⟨by rfl, ?hyE32⟩) hSE ?restE32
      case hyE32 => (intro W hW; (try dsimp only at hW); go_simp; try with_reducible rfl)
      try simp only [Act.put, List.setIfInBounds_toArray, List.set_cons_zero, List.set_cons_succ]
      refine takeH 1 (oi := ⟨some 96, _, _, _, _, _⟩) (v := ?_) rfl (by kernel_rfl) (by kernel_rfl) (by kernel_rfl) (fun _ _ _ h => h) (Or.inl ⟨by rfl, ?hyE33⟩) hSE ?restE33
      case hyE33 => (intro W hW; (try dsimp only at hW); go_simp; try with_reducible rfl)
      try simp only [Act.put, List.setIfInBounds_toArray, List.set_cons_zero, List.set_cons_succ]
      refine takeH 4 (oi := ⟨some 99, _, _, _, _, _⟩) (v := ?_) rfl (by kernel_rfl) (by kernel_rfl) (by kernel_rfl) (fun _ _ _ h => h) (Or.inl ⟨by rfl, ?hyE34⟩) hSE ?restE34
      case hyE34 => (intro W hW; (try dsimp only at hW); go_simp; try with_reducible rfl)
      try simp only [Act.put, List.setIfInBounds_toArray, List.set_cons_zero, List.set_cons_succ]
      refine takeH 8 (oi := ⟨some 103, _, _, _, _, _⟩) (v := ?_) rfl (by kernel_rfl) (by kernel_rfl) (by kernel_rfl) (fun _ _ _ h => h) (Or.inl ⟨by rfl, ?hyE35⟩) hSE ?restE35
      case hyE35 => (intro W hW; (try dsimp only at hW); go_simp; try with_reducible rfl)
      try simp only [Act.put, List.setIfInBounds_toArray, List.set_cons_zero, List.set_cons_succ]
      refine one (i := 2) (by kernel_rfl) ?_
      refine wpOp_wanted rfl (by rfl) fun K hK => ?_
      go_simp
      with_reducible refine (PR0.out _ (T0.out.on (D11.out.on hSE).bel)).mono ?_
      rintro e wE36 ⟨rfl, hb⟩
      have SE36 : Below w5.heap.size w5 wE36 := hSE.trans (hb.mono hSE.size)
      clear hb
      refine hK _ _ ⟨SE36, ?_⟩
      clear hK K
      try simp only [Act.put, List.setIfInBounds_toArray, List.set_cons_zero, List.set_cons_succ]
      refine takeH 3 (oi := ⟨some 98, _, _, _, _, _⟩) (v := ?_) rfl (by kernel_rfl) (by kernel_rfl) (by kernel_rfl) (fun _ _ _ h => h) (Or.inl ⟨by rfl, ?hyE37⟩) SE36 ?restE37
      case hyE37 => (intro W hW; (try dsimp only at hW); go_simp; try with_reducible rfl)
      try simp only [Act.put, List.setIfInBounds_toArray, List.set_cons_zero, List.set_cons_succ]
      refine one (i := 5) (by kernel_rfl) ?_
      refine wpOp_wanted rfl (by rfl) fun K hK => ?_
      go_simp
      with_reducible refine (PR1.out _ (T0.out.on (D11.out.on SE36).bel)).mono ?_
      rintro e wE38 ⟨rfl, hb⟩
      have SE38 : Below w5.heap.size w5 wE38 := SE36.trans (hb.mono SE36.size)
      clear hb
      refine hK _ _ ⟨SE38, ?_⟩
      clear hK K
      try simp only [Act.put, List.setIfInBounds_toArray, List.set_cons_zero, List.set_cons_succ]
      refine takeH 6 (oi := ⟨some 101, _, _, _, _, _⟩) (v := ?_) rfl (by kernel_rfl) (by kernel_rfl) (by kernel_rfl) (fun _ _ _ h => h) (Or.inl ⟨by rfl, ?hyE39⟩) SE38 ?restE39
      case hyE39 => (intro W hW; (try dsimp only at hW); go_simp; try with_reducible rfl)
      try simp only [Act.put, List.setIfInBounds_toArray, List.set_cons_zero, List.set_cons_succ]
      refine takeH 7 (oi := ⟨some 102, _, _, _, _, _⟩) (v := ?_) rfl (by kernel_rfl) (by kernel_rfl) (by kernel_rfl) (fun _ _ _ h => h) (Or.inl ⟨by rfl, ?hyE40⟩) SE38 ?restE40
      case hyE40 => (intro W hW; (try dsimp only at hW); go_simp; try with_reducible rfl)
      try simp only [Act.put, List.setIfInBounds_toArray, List.set_cons_zero, List.set_cons_succ]
      refine one (i := 9) (by kernel_rfl) ?_
      refine wpOp_wanted rfl (by rfl) fun K hK => ?_
      go_simp
      with_reducible refine (PR2.out _ (T0.out.on (D11.out.on SE38).bel)).mono ?_
      rintro e wE41 ⟨rfl, hb⟩
      have SE41 : Below w5.heap.size w5 wE41 := SE38.trans (hb.mono SE38.size)
      clear hb
      refine hK _ _ ⟨SE41, ?_⟩
      clear hK K
      try simp only [Act.put, List.setIfInBounds_toArray, List.set_cons_zero, List.set_cons_succ]
      refine takeH 10 (oi := ⟨some 105, _, _, _, _, _⟩) (v := ?_) rfl (by kernel_rfl) (by kernel_rfl) (by kernel_rfl) (fun _ _ _ h => h) (Or.inl ⟨by rfl, ?hyE42⟩) SE41 ?restE42
      case hyE42 => (intro W hW; (try dsimp only at hW); go_simp; try with_reducible rfl)
      try simp only [Act.put, List.setIfInBounds_toArray, List.set_cons_zero, List.set_cons_succ]
      refine takeH 11 (oi := ⟨some 106, _, _, _, _, _⟩) (v := ?_) rfl (by kernel_rfl) (by kernel_rfl) (by kernel_rfl) (fun _ _ _ h => h) (Or.inl ⟨by rfl, ?hyE43⟩) SE41 ?restE43
      case hyE43 => (intro W hW; (try dsimp only at hW); go_simp; try with_reducible rfl)
      try simp only [Act.put, List.setIfInBounds_toArray, List.set_cons_zero, List.set_cons_succ]
      refine one (i := 12) (by kernel_rfl) ?_
      refine wpOp_wanted rfl (by rfl) fun K hK => ?_
      go_simp
      with_reducible refine (hInt _ _).mono ?_
      rintro e wE44 ⟨rfl, hb⟩
      have SE44 : Below w5.heap.size w5 wE44 := SE41.trans (hb.mono SE41.size)
      clear hb
      refine hK _ _ ⟨SE44, ?_⟩
      clear hK K
      try simp only [Act.put, List.setIfInBounds_toArray, List.set_cons_zero, List.set_cons_succ]
      refine takeH 13 (oi := ⟨some 108, _, _, _, _, _⟩) (v := ?_) rfl (by kernel_rfl) (by kernel_rfl) (by kernel_rfl) (fun _ _ _ h => h) (Or.inl ⟨by rfl, ?hyE45⟩) SE44 ?restE45
      case hyE45 => (intro W hW; (try dsimp only at hW); go_simp; try with_reducible rfl)
      try simp only [Act.put, List.setIfInBounds_toArray, List.set_cons_zero, List.set_cons_succ]
      refine takeH 14 (oi := ⟨some 6, _, _, _, _, _⟩) (v := ?_) rfl (by kernel_rfl) (by kernel_rfl) (by kernel_rfl) (fun _ _ _ h => h) (Or.inl ⟨by rfl, ?hyE46⟩) SE44 ?restE46
      case hyE46 => (intro W hW; (try dsimp only at hW); go_simp; try with_reducible rfl)
      try simp only [Act.put, List.setIfInBounds_toArray, List.set_cons_zero, List.set_cons_succ]
      refine wpAnyH_done (by kernel_rfl) ?_ _
      clear naE0 naE1 naE2 qaE0 qaE1 qaE2 uaE0 uaE1 uaE2 vaE0 vaE1 vaE2
      go_wp2_with fail
      go_ret
      exact ⟨rfl, (D11.out.on SE44).bel⟩
    · refine wpOp_wanted rfl (by rfl) fun K hK => ?_
      go_simp
      have hzA47_6 : w1.heap.size ≤ wA2.heap.size := by have h := SA2.size; omega
      have SA47 : Below w1.heap.size w1 (wA2.alloc (.cells #[.int .i64 0, .int .i64 0, .string ⟨#[]⟩] 32)) := (bel1 SA2 _)
      have BA47_6 : Hid (Blk (wA2.alloc (.cells #[.int .i64 0, .int .i64 0, .string ⟨#[]⟩] 32)) (wA2.heap.size) 32 [.int .i64 0, .int .i64 0, .string ⟨#[]⟩]) := Lib.hid (by have h := Blk.new wA2 [.int .i64 0, .int .i64 0, .string ⟨#[]⟩] 32; exact h)
      refine hK _ _ ⟨SA47, ?_⟩
      clear hK K
      try simp only [Act.put, List.setIfInBounds_toArray, List.set_cons_zero, List.set_cons_succ]
      refine one (i := 2) (by kernel_rfl) ?_
      refine wpOp_wanted rfl (by rfl) fun K hK => ?_
      go_simp
      with_reducible refine (X5.out _ (T0.out.on (D7.out.on SA47).bel)).mono ?_
      rintro e wA48 ⟨rfl, hb⟩
      have SA48 : Below w1.heap.size w1 wA48 := SA47.trans (hb.mono SA47.size)
      have BA48_6 := Lib.hid (BA47_6.out.of (hb.block _ BA47_6.out.lt))
      clear hb
      refine hK _ _ ⟨SA48, ?_⟩
      clear hK K
      try simp only [Act.put, List.setIfInBounds_toArray, List.set_cons_zero, List.set_cons_succ]
      refine takeH 3 (oi := ⟨some 62, _, _, _, _, _⟩) (v := ?_) rfl (by kernel_rfl) (by kernel_rfl) (by kernel_rfl) (fun _ _ _ h => h) (Or.inl ⟨by rfl, ?hyA49⟩) SA48 ?restA49
      case hyA49 => (intro W hW; (try dsimp only at hW); go_simp; try with_reducible rfl)
      try simp only [Act.put, List.setIfInBounds_toArray, List.set_cons_zero, List.set_cons_succ]
      refine takeH 4 (oi := ⟨some 66, _, _, _, _, _⟩) (v := ?_) rfl (by kernel_rfl) (by kernel_rfl) (by kernel_rfl) (fun _ _ _ h => h) (Or.inl ⟨by rfl, ?hyA50⟩) SA48 ?restA50
      case hyA50 => (intro W hW; (try dsimp only at hW); go_simp; try with_reducible rfl)
      try simp only [Act.put, List.setIfInBounds_toArray, List.set_cons_zero, List.set_cons_succ]
      refine takeH 5 (oi := ⟨some 67, _, _, _, _, _⟩) (v := ?_) rfl (by kernel_rfl) (by kernel_rfl) (by kernel_rfl) (fun _ _ _ h => h) (Or.inl ⟨by rfl, ?hyA51⟩) SA48 ?restA51
      case hyA51 => (intro W hW; (try dsimp only at hW); go_simp; try with_reducible rfl)
      try simp only [Act.put, List.setIfInBounds_toArray, List.set_cons_zero, List.set_cons_succ]
      refine one (i := 7) (by kernel_rfl) ?_
      refine wpOp_wanted rfl (by rfl) fun K hK => ?_
      have kcA520 := BA48_6.out.cell 0 _ rfl
      have kzA520 := BA48_6.out.frozen 0
      have kcA521 := BA48_6.out.cell 1 _ rfl
      have kzA521 := BA48_6.out.frozen 1
      have kcA522 := BA48_6.out.cell 2 _ rfl
      have kzA522 := BA48_6.out.frozen 2
      go_simp
      clear kcA520 kzA520 kcA521 kzA521 kcA522 kzA522
      have SA52 : Below w1.heap.size w1 (((wA48.setCell ⟨(wA2.heap.size), 0, none⟩ (.int .i64 3)).setCell ⟨(wA2.heap.size), 1, none⟩ (.int .i64 0)).setCell ⟨(wA2.heap.size), 2, none⟩ (.string A)) := ((((((SA48).setCell hzA47_6 (.int .i64 3))).setCell hzA47_6 (.int .i64 0))).setCell hzA47_6 (.string A))
      have BA52_6 : Hid (Blk (((wA48.setCell ⟨(wA2.heap.size), 0, none⟩ (.int .i64 3)).setCell ⟨(wA2.heap.size), 1, none⟩ (.int .i64 0)).setCell ⟨(wA2.heap.size), 2, none⟩ (.string A)) (wA2.heap.size) 32 [.int .i64 3, .int .i64 0, .string A]) := Lib.hid (((((((BA48_6.out).setSame 0 (.int .i64 3))).setSame 1 (.int .i64 0))).setSame 2 (.string A)))
      refine hK _ _ ⟨SA52, ?_⟩
      clear hK K
      try simp only [Act.put, List.setIfInBounds_toArray, List.set_cons_zero, List.set_cons_succ]
      refine takeH 8 (oi := ⟨some 16, _, _, _, _, _⟩) (v := ?_) rfl (by kernel_rfl) (by kernel_rfl) (by kernel_rfl) (fun _ _ _ h => h) (Or.inl ⟨by rfl, ?hyA53⟩) SA52 ?restA53
      case hyA53 => (intro W hW; (try dsimp only at hW); go_simp; try with_reducible rfl)
      try simp only [Act.put, List.setIfInBounds_toArray, List.set_cons_zero, List.set_cons_succ]
      refine wpAnyH_done (by kernel_rfl) ?_ _
      clear qaA0 qaA1 qaA2
      have D8 := Lib.hid ((D7.out.on SA52).cons (p := (wA2.heap.size)) (by omega) BA52_6.out)
      generalize (((wA48.setCell ⟨(wA2.heap.size), 0, none⟩ (.int .i64 3)).setCell ⟨(wA2.heap.size), 1, none⟩ (.int .i64 0)).setCell ⟨(wA2.heap.size), 2, none⟩ (.string A)) = W3 at D8 ⊢
      generalize (wA2.heap.size) = ps at D8 ⊢
      go_upto_region 12 with (fail)
      have hBB : Below W3.heap.size W3 ({ W3 with drawn := W3.drawn + 1 } : World) := ⟨rfl, rfl, rfl, Nat.le_refl _, fun _ _ => rfl⟩
      refine wp_region_held (S := Below W3.heap.size W3) (by kernel_rfl) ?_
      have hSB := hBB
      generalize ({ W3 with drawn := W3.drawn + 1 } : World) = wB at hSB hBB ⊢
      have hleB := D8.out.bel.size
      have hslB := hSB.size
      have saB0 : ∀ W, Below W3.heap.size W3 W → W.cell? ⟨ps, 0, none⟩ = some (.int .i64 3) := fun W hW => ((D8.out.on hW).blk _ (List.mem_cons_self)).2.cell 0 _ rfl
      have saB1 : ∀ W, Below W3.heap.size W3 W → W.cell? ⟨ps, 1, none⟩ = some (.int .i64 0) := fun W hW => ((D8.out.on hW).blk _ (List.mem_cons_self)).2.cell 1 _ rfl
      have saB2 : ∀ W, Below W3.heap.size W3 W → W.cell? ⟨ps, 2, none⟩ = some (.string A) := fun W hW => ((D8.out.on hW).blk _ (List.mem_cons_self)).2.cell 2 _ rfl
      have xbB0 : ∀ W, Below W3.heap.size W3 W → W.cell? ⟨x2, 0, none⟩ = some (.int .i64 3) := fun W hW => ((D8.out.on hW).blk _ (List.mem_cons_of_mem _ (List.mem_cons_self))).2.cell 0 _ rfl
      have xbB1 : ∀ W, Below W3.heap.size W3 W → W.cell? ⟨x2, 1, none⟩ = some (.int .i64 0) := fun W hW => ((D8.out.on hW).blk _ (List.mem_cons_of_mem _ (List.mem_cons_self))).2.cell 1 _ rfl
      have xbB2 : ∀ W, Below W3.heap.size W3 W → W.cell? ⟨x2, 2, none⟩ = some (.string X) := fun W hW => ((D8.out.on hW).blk _ (List.mem_cons_of_mem _ (List.mem_cons_self))).2.cell 2 _ rfl
      have xaB0 : ∀ W, Below W3.heap.size W3 W → W.cell? ⟨wn5.heap.size, 0, none⟩ = some (.int .i64 3) := fun W hW => ((D8.out.on hW).blk _ (List.mem_cons_of_mem _ (List.mem_cons_of_mem _ (List.mem_cons_self)))).2.cell 0 _ rfl
      have xaB1 : ∀ W, Below W3.heap.size W3 W → W.cell? ⟨wn5.heap.size, 1, none⟩ = some (.int .i64 0) := fun W hW => ((D8.out.on hW).blk _ (List.mem_cons_of_mem _ (List.mem_cons_of_mem _ (List.mem_cons_self)))).2.cell 1 _ rfl
      have xaB2 : ∀ W, Below W3.heap.size W3 W → W.cell? ⟨wn5.heap.size, 2, none⟩ = some (.string X) := fun W hW => ((D8.out.on hW).blk _ (List.mem_cons_of_mem _ (List.mem_cons_of_mem _ (List.mem_cons_self)))).2.cell 2 _ rfl
      have qaB0 : ∀ W, Below W3.heap.size W3 W → W.cell? ⟨w.heap.size, 0, none⟩ = some (.int .i64 k0) := fun W hW => ((D8.out.on hW).blk _ (List.mem_cons_of_mem _ (List.mem_cons_of_mem _ (List.mem_cons_of_mem _ (List.mem_cons_of_mem _ (List.mem_cons_of_mem _ (List.mem_cons_of_mem _ (List.mem_cons_of_mem _ (List.mem_cons_of_mem _ (List.mem_cons_self)))))))))).2.cell 0 _ rfl
      have qaB1 : ∀ W, Below W3.heap.size W3 W → W.cell? ⟨w.heap.size, 1, none⟩ = some (.int .i64 n0) := fun W hW => ((D8.out.on hW).blk _ (List.mem_cons_of_mem _ (List.mem_cons_of_mem _ (List.mem_cons_of_mem _ (List.mem_cons_of_mem _ (List.mem_cons_of_mem _ (List.mem_cons_of_mem _ (List.mem_cons_of_mem _ (List.mem_cons_of_mem _ (List.mem_cons_self)))))))))).2.cell 1 _ rfl
      have qaB2 : ∀ W, Below W3.heap.size W3 W → W.cell? ⟨w.heap.size, 2, none⟩ = some (.string s0) := fun W hW => ((D8.out.on hW).blk _ (List.mem_cons_of_mem _ (List.mem_cons_of_mem _ (List.mem_cons_of_mem _ (List.mem_cons_of_mem _ (List.mem_cons_of_mem _ (List.mem_cons_of_mem _ (List.mem_cons_of_mem _ (List.mem_cons_of_mem _ (List.mem_cons_self)))))))))).2.cell 2 _ rfl
      refine takeH 0 (oi := ⟨some 68, _, _, _, _, _⟩) (v := ?_) rfl (by kernel_rfl) (by kernel_rfl) (by kernel_rfl) (fun _ _ _ h => h) (Or.inl ⟨by rfl, ?hyB54⟩) hSB ?restB54
      case hyB54 => (intro W hW; (try dsimp only at hW); go_simp; try with_reducible rfl)
      try simp only [Act.put, List.setIfInBounds_toArray, List.set_cons_zero, List.set_cons_succ]
      refine takeH 1 (oi := ⟨some 69, _, _, _, _, _⟩) (v := ?_) rfl (by kernel_rfl) (by kernel_rfl) (by kernel_rfl) (fun _ _ _ h => h) (Or.inl ⟨by rfl, ?hyB55⟩) hSB ?restB55
      case hyB55 => (intro W hW; (try dsimp only at hW); go_simp; try with_reducible rfl)
      try simp only [Act.put, List.setIfInBounds_toArray, List.set_cons_zero, List.set_cons_succ]
      refine takeH 2 (oi := ⟨some 70, _, _, _, _, _⟩) (v := ?_) rfl (by kernel_rfl) (by kernel_rfl) (by kernel_rfl) (fun _ _ _ h => h) (Or.inl ⟨by rfl, ?hyB56⟩) hSB ?restB56
      case hyB56 => (intro W hW; (try dsimp only at hW); go_simp; try with_reducible rfl)
      try simp only [Act.put, List.setIfInBounds_toArray, List.set_cons_zero, List.set_cons_succ]
      refine takeH 3 (oi := ⟨some 71, _, _, _, _, _⟩) (v := ?_) rfl (by kernel_rfl) (by kernel_rfl) (by kernel_rfl) (fun _ _ _ h => h) (Or.inl ⟨by rfl, ?hyB57⟩) hSB ?restB57
      case hyB57 => (intro W hW; (try dsimp only at hW); go_simp; try with_reducible rfl)
      try simp only [Act.put, List.setIfInBounds_toArray, List.set_cons_zero, List.set_cons_succ]
      refine takeH 4 (oi := ⟨some 72, _, _, _, _, _⟩) (v := ?_) rfl (by kernel_rfl) (by kernel_rfl) (by kernel_rfl) (fun _ _ _ h => h) (Or.inl ⟨by rfl, ?hyB58⟩) hSB ?restB58
      case hyB58 => (intro W hW; (try dsimp only at hW); go_simp; try with_reducible rfl)
      try simp only [Act.put, List.setIfInBounds_toArray, List.set_cons_zero, List.set_cons_succ]
      refine takeH 5 (oi := ⟨some 73, _, _, _, _, _⟩) (v := ?_) rfl (by kernel_rfl) (by kernel_rfl) (by kernel_rfl) (fun _ _ _ h => h) (Or.inl ⟨by rfl, ?hyB59⟩) hSB ?restB59
      case hyB59 => (intro W hW; (try dsimp only at hW); go_simp; try with_reducible rfl)
      try simp only [Act.put, List.setIfInBounds_toArray, List.set_cons_zero, List.set_cons_succ]
      refine takeH 6 (oi := ⟨some 74, _, _, _, _, _⟩) (v := ?_) rfl (by kernel_rfl) (by kernel_rfl) (by kernel_rfl) (fun _ _ _ h => h) (Or.inl ⟨by rfl, ?hyB60⟩) hSB ?restB60
      case hyB60 => (intro W hW; (try dsimp only at hW); go_simp; try with_reducible rfl)
      try simp only [Act.put, List.setIfInBounds_toArray, List.set_cons_zero, List.set_cons_succ]
      refine takeH 7 (oi := ⟨some 75, _, _, _, _, _⟩) (v := ?_) rfl (by kernel_rfl) (by kernel_rfl) (by kernel_rfl) (fun _ _ _ h => h) (Or.inl ⟨by rfl, ?hyB61⟩) hSB ?restB61
      case hyB61 => (intro W hW; (try dsimp only at hW); go_simp; try with_reducible rfl)
      try simp only [Act.put, List.setIfInBounds_toArray, List.set_cons_zero, List.set_cons_succ]
      refine takeH 8 (oi := ⟨some 76, _, _, _, _, _⟩) (v := ?_) rfl (by kernel_rfl) (by kernel_rfl) (by kernel_rfl) (fun _ _ _ h => h) (Or.inl ⟨by rfl, ?hyB62⟩) hSB ?restB62
      case hyB62 => (intro W hW; (try dsimp only at hW); go_simp; try with_reducible rfl)
      try simp only [Act.put, List.setIfInBounds_toArray, List.set_cons_zero, List.set_cons_succ]
      refine takeH 9 (oi := ⟨some 77, _, _, _, _, _⟩) (v := ?_) rfl (by kernel_rfl) (by kernel_rfl) (by kernel_rfl) (fun _ _ _ h => h) (Or.inl ⟨by rfl, ?hyB63⟩) hSB ?restB63
      case hyB63 => (intro W hW; (try dsimp only at hW); go_simp; try with_reducible rfl)
      try simp only [Act.put, List.setIfInBounds_toArray, List.set_cons_zero, List.set_cons_succ]
      refine takeH 10 (oi := ⟨some 78, _, _, _, _, _⟩) (v := ?_) rfl (by kernel_rfl) (by kernel_rfl) (by kernel_rfl) (fun _ _ _ h => h) (Or.inl ⟨by rfl, ?hyB64⟩) hSB ?restB64
      case hyB64 => (intro W hW; (try dsimp only at hW); go_simp; try with_reducible rfl)
      try simp only [Act.put, List.setIfInBounds_toArray, List.set_cons_zero, List.set_cons_succ]
      refine takeH 11 (oi := ⟨some 79, _, _, _, _, _⟩) (v := ?_) rfl (by kernel_rfl) (by kernel_rfl) (by kernel_rfl) (fun _ _ _ h => h) (Or.inl ⟨by rfl, ?hyB65⟩) hSB ?restB65
      case hyB65 => (intro W hW; (try dsimp only at hW); go_simp; try with_reducible rfl)
      try simp only [Act.put, List.setIfInBounds_toArray, List.set_cons_zero, List.set_cons_succ]
      refine takeH 12 (oi := ⟨some 80, _, _, _, _, _⟩) (v := ?_) rfl (by kernel_rfl) (by kernel_rfl) (by kernel_rfl) (fun _ _ _ h => h) (Or.inl ⟨by rfl, ?hyB66⟩) hSB ?restB66
      case hyB66 => (intro W hW; (try dsimp only at hW); go_simp; try with_reducible rfl)
      try simp only [Act.put, List.setIfInBounds_toArray, List.set_cons_zero, List.set_cons_succ]
      refine takeH 13 (oi := ⟨some 81, _, _, _, _, _⟩) (v := ?_) rfl (by kernel_rfl) (by kernel_rfl) (by kernel_rfl) (fun _ _ _ h => h) (Or.inl ⟨by rfl, ?hyB67⟩) hSB ?restB67
      case hyB67 => (intro W hW; (try dsimp only at hW); go_simp; try with_reducible rfl)
      try simp only [Act.put, List.setIfInBounds_toArray, List.set_cons_zero, List.set_cons_succ]
      refine takeH 14 (oi := ⟨some 82, _, _, _, _, _⟩) (v := ?_) rfl (by kernel_rfl) (by kernel_rfl) (by kernel_rfl) (fun _ _ _ h => h) (Or.inl ⟨by rfl, ?hyB68⟩) hSB ?restB68
      case hyB68 => (intro W hW; (try dsimp only at hW); go_simp; try with_reducible rfl)
      try simp only [Act.put, List.setIfInBounds_toArray, List.set_cons_zero, List.set_cons_succ]
      refine takeH 15 (oi := ⟨some 83, _, _, _, _, _⟩) (v := ?_) rfl (by kernel_rfl) (by kernel_rfl) (by kernel_rfl) (fun _ _ _ h => h) (Or.inl ⟨by rfl, ?hyB69⟩) hSB ?restB69
      case hyB69 => (intro W hW; (try dsimp only at hW); go_simp; try with_reducible rfl)
      try simp only [Act.put, List.setIfInBounds_toArray, List.set_cons_zero, List.set_cons_succ]
      refine takeH 16 (oi := ⟨some 84, _, _, _, _, _⟩) (v := ?_) rfl (by kernel_rfl) (by kernel_rfl) (by kernel_rfl) (fun _ _ _ h => h) (Or.inl ⟨by rfl, ?hyB70⟩) hSB ?restB70
      case hyB70 => (intro W hW; (try dsimp only at hW); go_simp; try with_reducible rfl)
      try simp only [Act.put, List.setIfInBounds_toArray, List.set_cons_zero, List.set_cons_succ]
      refine takeH 17 (oi := ⟨some 85, _, _, _, _, _⟩) (v := ?_) rfl (by kernel_rfl) (by kernel_rfl) (by kernel_rfl) (fun _ _ _ h => h) (Or.inl ⟨by rfl, ?hyB71⟩) hSB ?restB71
      case hyB71 => (intro W hW; (try dsimp only at hW); go_simp; try with_reducible rfl)
      try simp only [Act.put, List.setIfInBounds_toArray, List.set_cons_zero, List.set_cons_succ]
      refine one (i := 18) (by kernel_rfl) ?_
      refine wpOp_wanted rfl (by rfl) fun K hK => ?_
      go_simp
      with_reducible refine (PR0.out _ (T0.out.on (D8.out.on hSB).bel)).mono ?_
      rintro e wB72 ⟨rfl, hb⟩
      have SB72 : Below W3.heap.size W3 wB72 := hSB.trans (hb.mono hSB.size)
      clear hb
      refine hK _ _ ⟨SB72, ?_⟩
      clear hK K
      try simp only [Act.put, List.setIfInBounds_toArray, List.set_cons_zero, List.set_cons_succ]
      refine one (i := 19) (by kernel_rfl) ?_
      refine wpOp_wanted rfl (by rfl) fun K hK => ?_
      go_simp
      with_reducible refine (hStr A _).mono ?_
      rintro e wB73 ⟨rfl, hb⟩
      have SB73 : Below W3.heap.size W3 wB73 := SB72.trans (hb.mono SB72.size)
      clear hb
      refine hK _ _ ⟨SB73, ?_⟩
      clear hK K
      try simp only [Act.put, List.setIfInBounds_toArray, List.set_cons_zero, List.set_cons_succ]
      refine takeH 20 (oi := ⟨some 88, _, _, _, _, _⟩) (v := ?_) rfl (by kernel_rfl) (by kernel_rfl) (by kernel_rfl) (fun _ _ _ h => h) (Or.inl ⟨by rfl, ?hyB74⟩) SB73 ?restB74
      case hyB74 => (intro W hW; (try dsimp only at hW); go_simp; try with_reducible rfl)
      try simp only [Act.put, List.setIfInBounds_toArray, List.set_cons_zero, List.set_cons_succ]
      refine takeH 21 (oi := ⟨some 89, _, _, _, _, _⟩) (v := ?_) rfl (by kernel_rfl) (by kernel_rfl) (by kernel_rfl) (fun _ _ _ h => h) (Or.inl ⟨by rfl, ?hyB75⟩) SB73 ?restB75
      case hyB75 => (intro W hW; (try dsimp only at hW); go_simp; try with_reducible rfl)
      try simp only [Act.put, List.setIfInBounds_toArray, List.set_cons_zero, List.set_cons_succ]
      refine wpAnyH_done (by kernel_rfl) ?_ _
      clear saB0 saB1 saB2 xbB0 xbB1 xbB2 xaB0 xaB1 xaB2 qaB0 qaB1 qaB2
      have D9 := Lib.hid (D8.out.on SB73)
      generalize wB73 = W4 at D9 ⊢
      have xa0 := (D9.out.blk _ (List.mem_cons_of_mem _ (List.mem_cons_of_mem _ (List.mem_cons_self)))).2.cell 0 _ rfl; have xaz0 := (D9.out.blk _ (List.mem_cons_of_mem _ (List.mem_cons_of_mem _ (List.mem_cons_self)))).2.frozen 0; have xa1 := (D9.out.blk _ (List.mem_cons_of_mem _ (List.mem_cons_of_mem _ (List.mem_cons_self)))).2.cell 1 _ rfl; have xaz1 := (D9.out.blk _ (List.mem_cons_of_mem _ (List.mem_cons_of_mem _ (List.mem_cons_self)))).2.frozen 1; have xa2 := (D9.out.blk _ (List.mem_cons_of_mem _ (List.mem_cons_of_mem _ (List.mem_cons_self)))).2.cell 2 _ rfl; have xaz2 := (D9.out.blk _ (List.mem_cons_of_mem _ (List.mem_cons_of_mem _ (List.mem_cons_self)))).2.frozen 2; have xalt := (D9.out).bl (List.mem_cons_of_mem _ (List.mem_cons_of_mem _ (List.mem_cons_self)))
      go_upto_region 15 with (go_at_call 56; go_loud (with_reducible refine (ON.out _ (T0.out.on D9.out.bel)).mono ?_; rintro e wn ⟨rfl, hb⟩; have D10 := Lib.hid ((D9.out).on hb); clear hb))
      have D11 := Lib.hid (D10.out.new 32 [.int .i64 2, .int .i64 ((A.size : Int) + (B.size : Int) + (C.size : Int)), .string ⟨#[]⟩])
      obtain ⟨w5, hw5⟩ : ∃ z, z = wn.alloc (.cells #[.int .i64 2, .int .i64 ((A.size : Int) + (B.size : Int) + (C.size : Int)), .string ⟨#[]⟩] 32) := ⟨_, rfl⟩
      obtain ⟨xn, hxn⟩ : ∃ z, z = wn.heap.size := ⟨_, rfl⟩
      rw [← hw5] at D11
      rw [← hxn] at D11
      simp only [← hw5, ← hxn]
      clear hw5 hxn
      have hBE : Below w5.heap.size w5 ({ w5 with drawn := w5.drawn + 1 } : World) := ⟨rfl, rfl, rfl, Nat.le_refl _, fun _ _ => rfl⟩
      refine wp_region_held (S := Below w5.heap.size w5) (by kernel_rfl) ?_
      have hSE := hBE
      generalize ({ w5 with drawn := w5.drawn + 1 } : World) = wE at hSE hBE ⊢
      have hleE := D11.out.bel.size
      have hslE := hSE.size
      have naE0 : ∀ W, Below w5.heap.size w5 W → W.cell? ⟨xn, 0, none⟩ = some (.int .i64 2) := fun W hW => ((D11.out.on hW).blk _ (List.mem_cons_self)).2.cell 0 _ rfl
      have naE1 : ∀ W, Below w5.heap.size w5 W → W.cell? ⟨xn, 1, none⟩ = some (.int .i64 ((A.size : Int) + (B.size : Int) + (C.size : Int))) := fun W hW => ((D11.out.on hW).blk _ (List.mem_cons_self)).2.cell 1 _ rfl
      have naE2 : ∀ W, Below w5.heap.size w5 W → W.cell? ⟨xn, 2, none⟩ = some (.string ⟨#[]⟩) := fun W hW => ((D11.out.on hW).blk _ (List.mem_cons_self)).2.cell 2 _ rfl
      have qaE0 : ∀ W, Below w5.heap.size w5 W → W.cell? ⟨w.heap.size, 0, none⟩ = some (.int .i64 k0) := fun W hW => ((D11.out.on hW).blk _ (List.mem_cons_of_mem _ (List.mem_cons_of_mem _ (List.mem_cons_of_mem _ (List.mem_cons_of_mem _ (List.mem_cons_of_mem _ (List.mem_cons_of_mem _ (List.mem_cons_of_mem _ (List.mem_cons_of_mem _ (List.mem_cons_of_mem _ (List.mem_cons_self))))))))))).2.cell 0 _ rfl
      have qaE1 : ∀ W, Below w5.heap.size w5 W → W.cell? ⟨w.heap.size, 1, none⟩ = some (.int .i64 n0) := fun W hW => ((D11.out.on hW).blk _ (List.mem_cons_of_mem _ (List.mem_cons_of_mem _ (List.mem_cons_of_mem _ (List.mem_cons_of_mem _ (List.mem_cons_of_mem _ (List.mem_cons_of_mem _ (List.mem_cons_of_mem _ (List.mem_cons_of_mem _ (List.mem_cons_of_mem _ (List.mem_cons_self))))))))))).2.cell 1 _ rfl
      have qaE2 : ∀ W, Below w5.heap.size w5 W → W.cell? ⟨w.heap.size, 2, none⟩ = some (.string s0) := fun W hW => ((D11.out.on hW).blk _ (List.mem_cons_of_mem _ (List.mem_cons_of_mem _ (List.mem_cons_of_mem _ (List.mem_cons_of_mem _ (List.mem_cons_of_mem _ (List.mem_cons_of_mem _ (List.mem_cons_of_mem _ (List.mem_cons_of_mem _ (List.mem_cons_of_mem _ (List.mem_cons_self))))))))))).2.cell 2 _ rfl
      have uaE0 : ∀ W, Below w5.heap.size w5 W → W.cell? ⟨w.heap.size + 1, 0, none⟩ = some (.int .i64 k1) := fun W hW => ((D11.out.on hW).blk _ (List.mem_cons_of_mem _ (List.mem_cons_of_mem _ (List.mem_cons_of_mem _ (List.mem_cons_of_mem _ (List.mem_cons_of_mem _ (List.mem_cons_of_mem _ (List.mem_cons_of_mem _ (List.mem_cons_of_mem _ (List.mem_cons_self)))))))))).2.cell 0 _ rfl
      have uaE1 : ∀ W, Below w5.heap.size w5 W → W.cell? ⟨w.heap.size + 1, 1, none⟩ = some (.int .i64 n1) := fun W hW => ((D11.out.on hW).blk _ (List.mem_cons_of_mem _ (List.mem_cons_of_mem _ (List.mem_cons_of_mem _ (List.mem_cons_of_mem _ (List.mem_cons_of_mem _ (List.mem_cons_of_mem _ (List.mem_cons_of_mem _ (List.mem_cons_of_mem _ (List.mem_cons_self)))))))))).2.cell 1 _ rfl
      have uaE2 : ∀ W, Below w5.heap.size w5 W → W.cell? ⟨w.heap.size + 1, 2, none⟩ = some (.string s1) := fun W hW => ((D11.out.on hW).blk _ (List.mem_cons_of_mem _ (List.mem_cons_of_mem _ (List.mem_cons_of_mem _ (List.mem_cons_of_mem _ (List.mem_cons_of_mem _ (List.mem_cons_of_mem _ (List.mem_cons_of_mem _ (List.mem_cons_of_mem _ (List.mem_cons_self)))))))))).2.cell 2 _ rfl
      have vaE0 : ∀ W, Below w5.heap.size w5 W → W.cell? ⟨w.heap.size + 1 + 1, 0, none⟩ = some (.int .i64 k2) := fun W hW => ((D11.out.on hW).blk _ (List.mem_cons_of_mem _ (List.mem_cons_of_mem _ (List.mem_cons_of_mem _ (List.mem_cons_of_mem _ (List.mem_cons_of_mem _ (List.mem_cons_of_mem _ (List.mem_cons_of_mem _ (List.mem_cons_self))))))))).2.cell 0 _ rfl
      have vaE1 : ∀ W, Below w5.heap.size w5 W → W.cell? ⟨w.heap.size + 1 + 1, 1, none⟩ = some (.int .i64 n2) := fun W hW => ((D11.out.on hW).blk _ (List.mem_cons_of_mem _ (List.mem_cons_of_mem _ (List.mem_cons_of_mem _ (List.mem_cons_of_mem _ (List.mem_cons_of_mem _ (List.mem_cons_of_mem _ (List.mem_cons_of_mem _ (List.mem_cons_self))))))))).2.cell 1 _ rfl
      have vaE2 : ∀ W, Below w5.heap.size w5 W → W.cell? ⟨w.heap.size + 1 + 1, 2, none⟩ = some (.string s2) := fun W hW => ((D11.out.on hW).blk _ (List.mem_cons_of_mem _ (List.mem_cons_of_mem _ (List.mem_cons_of_mem _ (List.mem_cons_of_mem _ (List.mem_cons_of_mem _ (List.mem_cons_of_mem _ (List.mem_cons_of_mem _ (List.mem_cons_self))))))))).2.cell 2 _ rfl
      refine takeH 0 (oi := ⟨some 95, _, _, _, _, _⟩) (v := ?_) rfl (by kernel_rfl) (by kernel_rfl) (by kernel_rfl) (fun _ _ _ h => h) (Or.inl ⟨by rfl, ?hyE76⟩) hSE ?restE76
      case hyE76 => (intro W hW; (try dsimp only at hW); go_simp; try with_reducible rfl)
      try simp only [Act.put, List.setIfInBounds_toArray, List.set_cons_zero, List.set_cons_succ]
      refine takeH 1 (oi := ⟨some 96, _, _, _, _, _⟩) (v := ?_) rfl (by kernel_rfl) (by kernel_rfl) (by kernel_rfl) (fun _ _ _ h => h) (Or.inl ⟨by rfl, ?hyE77⟩) hSE ?restE77
      case hyE77 => (intro W hW; (try dsimp only at hW); go_simp; try with_reducible rfl)
      try simp only [Act.put, List.setIfInBounds_toArray, List.set_cons_zero, List.set_cons_succ]
      refine takeH 4 (oi := ⟨some 99, _, _, _, _, _⟩) (v := ?_) rfl (by kernel_rfl) (by kernel_rfl) (by kernel_rfl) (fun _ _ _ h => h) (Or.inl ⟨by rfl, ?hyE78⟩) hSE ?restE78
      case hyE78 => (intro W hW; (try dsimp only at hW); go_simp; try with_reducible rfl)
      try simp only [Act.put, List.setIfInBounds_toArray, List.set_cons_zero, List.set_cons_succ]
      refine takeH 8 (oi := ⟨some 103, _, _, _, _, _⟩) (v := ?_) rfl (by kernel_rfl) (by kernel_rfl) (by kernel_rfl) (fun _ _ _ h => h) (Or.inl ⟨by rfl, ?hyE79⟩) hSE ?restE79
      case hyE79 => (intro W hW; (try dsimp only at hW); go_simp; try with_reducible rfl)
      try simp only [Act.put, List.setIfInBounds_toArray, List.set_cons_zero, List.set_cons_succ]
      refine one (i := 2) (by kernel_rfl) ?_
      refine wpOp_wanted rfl (by rfl) fun K hK => ?_
      go_simp
      with_reducible refine (PR0.out _ (T0.out.on (D11.out.on hSE).bel)).mono ?_
      rintro e wE80 ⟨rfl, hb⟩
      have SE80 : Below w5.heap.size w5 wE80 := hSE.trans (hb.mono hSE.size)
      clear hb
      refine hK _ _ ⟨SE80, ?_⟩
      clear hK K
      try simp only [Act.put, List.setIfInBounds_toArray, List.set_cons_zero, List.set_cons_succ]
      refine takeH 3 (oi := ⟨some 98, _, _, _, _, _⟩) (v := ?_) rfl (by kernel_rfl) (by kernel_rfl) (by kernel_rfl) (fun _ _ _ h => h) (Or.inl ⟨by rfl, ?hyE81⟩) SE80 ?restE81
      case hyE81 => (intro W hW; (try dsimp only at hW); go_simp; try with_reducible rfl)
      try simp only [Act.put, List.setIfInBounds_toArray, List.set_cons_zero, List.set_cons_succ]
      refine one (i := 5) (by kernel_rfl) ?_
      refine wpOp_wanted rfl (by rfl) fun K hK => ?_
      go_simp
      with_reducible refine (PR1.out _ (T0.out.on (D11.out.on SE80).bel)).mono ?_
      rintro e wE82 ⟨rfl, hb⟩
      have SE82 : Below w5.heap.size w5 wE82 := SE80.trans (hb.mono SE80.size)
      clear hb
      refine hK _ _ ⟨SE82, ?_⟩
      clear hK K
      try simp only [Act.put, List.setIfInBounds_toArray, List.set_cons_zero, List.set_cons_succ]
      refine takeH 6 (oi := ⟨some 101, _, _, _, _, _⟩) (v := ?_) rfl (by kernel_rfl) (by kernel_rfl) (by kernel_rfl) (fun _ _ _ h => h) (Or.inl ⟨by rfl, ?hyE83⟩) SE82 ?restE83
      case hyE83 => (intro W hW; (try dsimp only at hW); go_simp; try with_reducible rfl)
      try simp only [Act.put, List.setIfInBounds_toArray, List.set_cons_zero, List.set_cons_succ]
      refine takeH 7 (oi := ⟨some 102, _, _, _, _, _⟩) (v := ?_) rfl (by kernel_rfl) (by kernel_rfl) (by kernel_rfl) (fun _ _ _ h => h) (Or.inl ⟨by rfl, ?hyE84⟩) SE82 ?restE84
      case hyE84 => (intro W hW; (try dsimp only at hW); go_simp; try with_reducible rfl)
      try simp only [Act.put, List.setIfInBounds_toArray, List.set_cons_zero, List.set_cons_succ]
      refine one (i := 9) (by kernel_rfl) ?_
      refine wpOp_wanted rfl (by rfl) fun K hK => ?_
      go_simp
      with_reducible refine (PR2.out _ (T0.out.on (D11.out.on SE82).bel)).mono ?_
      rintro e wE85 ⟨rfl, hb⟩
      have SE85 : Below w5.heap.size w5 wE85 := SE82.trans (hb.mono SE82.size)
      clear hb
      refine hK _ _ ⟨SE85, ?_⟩
      clear hK K
      try simp only [Act.put, List.setIfInBounds_toArray, List.set_cons_zero, List.set_cons_succ]
      refine takeH 10 (oi := ⟨some 105, _, _, _, _, _⟩) (v := ?_) rfl (by kernel_rfl) (by kernel_rfl) (by kernel_rfl) (fun _ _ _ h => h) (Or.inl ⟨by rfl, ?hyE86⟩) SE85 ?restE86
      case hyE86 => (intro W hW; (try dsimp only at hW); go_simp; try with_reducible rfl)
      try simp only [Act.put, List.setIfInBounds_toArray, List.set_cons_zero, List.set_cons_succ]
      refine takeH 11 (oi := ⟨some 106, _, _, _, _, _⟩) (v := ?_) rfl (by kernel_rfl) (by kernel_rfl) (by kernel_rfl) (fun _ _ _ h => h) (Or.inl ⟨by rfl, ?hyE87⟩) SE85 ?restE87
      case hyE87 => (intro W hW; (try dsimp only at hW); go_simp; try with_reducible rfl)
      try simp only [Act.put, List.setIfInBounds_toArray, List.set_cons_zero, List.set_cons_succ]
      refine one (i := 12) (by kernel_rfl) ?_
      refine wpOp_wanted rfl (by rfl) fun K hK => ?_
      go_simp
      with_reducible refine (hInt _ _).mono ?_
      rintro e wE88 ⟨rfl, hb⟩
      have SE88 : Below w5.heap.size w5 wE88 := SE85.trans (hb.mono SE85.size)
      clear hb
      refine hK _ _ ⟨SE88, ?_⟩
      clear hK K
      try simp only [Act.put, List.setIfInBounds_toArray, List.set_cons_zero, List.set_cons_succ]
      refine takeH 13 (oi := ⟨some 108, _, _, _, _, _⟩) (v := ?_) rfl (by kernel_rfl) (by kernel_rfl) (by kernel_rfl) (fun _ _ _ h => h) (Or.inl ⟨by rfl, ?hyE89⟩) SE88 ?restE89
      case hyE89 => (intro W hW; (try dsimp only at hW); go_simp; try with_reducible rfl)
      try simp only [Act.put, List.setIfInBounds_toArray, List.set_cons_zero, List.set_cons_succ]
      refine takeH 14 (oi := ⟨some 6, _, _, _, _, _⟩) (v := ?_) rfl (by kernel_rfl) (by kernel_rfl) (by kernel_rfl) (fun _ _ _ h => h) (Or.inl ⟨by rfl, ?hyE90⟩) SE88 ?restE90
      case hyE90 => (intro W hW; (try dsimp only at hW); go_simp; try with_reducible rfl)
      try simp only [Act.put, List.setIfInBounds_toArray, List.set_cons_zero, List.set_cons_succ]
      refine wpAnyH_done (by kernel_rfl) ?_ _
      clear naE0 naE1 naE2 qaE0 qaE1 qaE2 uaE0 uaE1 uaE2 vaE0 vaE1 vaE2
      go_wp2_with fail
      go_ret
      exact ⟨rfl, (D11.out.on SE88).bel⟩
  · refine wpOp_wanted rfl (by rfl) fun K hK => ?_
    go_simp
    have hzA91_6 : w1.heap.size ≤ wA.heap.size := by have h := hSA.size; omega
    have SA91 : Below w1.heap.size w1 (wA.alloc (.cells #[.int .i64 0, .int .i64 0, .string ⟨#[]⟩] 32)) := (bel1 hSA _)
    have BA91_6 : Hid (Blk (wA.alloc (.cells #[.int .i64 0, .int .i64 0, .string ⟨#[]⟩] 32)) (wA.heap.size) 32 [.int .i64 0, .int .i64 0, .string ⟨#[]⟩]) := Lib.hid (by have h := Blk.new wA [.int .i64 0, .int .i64 0, .string ⟨#[]⟩] 32; exact h)
    refine hK _ _ ⟨SA91, ?_⟩
    clear hK K
    try simp only [Act.put, List.setIfInBounds_toArray, List.set_cons_zero, List.set_cons_succ]
    refine one (i := 1) (by kernel_rfl) ?_
    refine wpOp_wanted rfl (by rfl) fun K hK => ?_
    go_simp
    with_reducible refine (hStr _ _).mono ?_
    rintro e wA92 ⟨rfl, hb⟩
    have SA92 : Below w1.heap.size w1 wA92 := SA91.trans (hb.mono SA91.size)
    have BA92_6 := Lib.hid (BA91_6.out.of (hb.block _ BA91_6.out.lt))
    clear hb
    refine hK _ _ ⟨SA92, ?_⟩
    clear hK K
    try simp only [Act.put, List.setIfInBounds_toArray, List.set_cons_zero, List.set_cons_succ]
    refine one (i := 2) (by kernel_rfl) ?_
    refine wpOp_wanted rfl (by rfl) fun K hK => ?_
    go_simp
    with_reducible refine (X5.out _ (T0.out.on (D7.out.on SA92).bel)).mono ?_
    rintro e wA93 ⟨rfl, hb⟩
    have SA93 : Below w1.heap.size w1 wA93 := SA92.trans (hb.mono SA92.size)
    have BA93_6 := Lib.hid (BA92_6.out.of (hb.block _ BA92_6.out.lt))
    clear hb
    refine hK _ _ ⟨SA93, ?_⟩
    clear hK K
    try simp only [Act.put, List.setIfInBounds_toArray, List.set_cons_zero, List.set_cons_succ]
    refine takeH 3 (oi := ⟨some 62, _, _, _, _, _⟩) (v := ?_) rfl (by kernel_rfl) (by kernel_rfl) (by kernel_rfl) (fun _ _ _ h => h) (Or.inl ⟨by rfl, ?hyA94⟩) SA93 ?restA94
    case hyA94 => (intro W hW; (try dsimp only at hW); go_simp; try with_reducible rfl)
    try simp only [Act.put, List.setIfInBounds_toArray, List.set_cons_zero, List.set_cons_succ]
    refine takeH 4 (oi := ⟨some 66, _, _, _, _, _⟩) (v := ?_) rfl (by kernel_rfl) (by kernel_rfl) (by kernel_rfl) (fun _ _ _ h => h) (Or.inl ⟨by rfl, ?hyA95⟩) SA93 ?restA95
    case hyA95 => (intro W hW; (try dsimp only at hW); go_simp; try with_reducible rfl)
    try simp only [Act.put, List.setIfInBounds_toArray, List.set_cons_zero, List.set_cons_succ]
    refine takeH 5 (oi := ⟨some 67, _, _, _, _, _⟩) (v := ?_) rfl (by kernel_rfl) (by kernel_rfl) (by kernel_rfl) (fun _ _ _ h => h) (Or.inl ⟨by rfl, ?hyA96⟩) SA93 ?restA96
    case hyA96 => (intro W hW; (try dsimp only at hW); go_simp; try with_reducible rfl)
    try simp only [Act.put, List.setIfInBounds_toArray, List.set_cons_zero, List.set_cons_succ]
    refine one (i := 7) (by kernel_rfl) ?_
    refine wpOp_wanted rfl (by rfl) fun K hK => ?_
    have kcA970 := BA93_6.out.cell 0 _ rfl
    have kzA970 := BA93_6.out.frozen 0
    have kcA971 := BA93_6.out.cell 1 _ rfl
    have kzA971 := BA93_6.out.frozen 1
    have kcA972 := BA93_6.out.cell 2 _ rfl
    have kzA972 := BA93_6.out.frozen 2
    go_simp
    clear kcA970 kzA970 kcA971 kzA971 kcA972 kzA972
    have SA97 : Below w1.heap.size w1 (((wA93.setCell ⟨(wA.heap.size), 0, none⟩ (.int .i64 3)).setCell ⟨(wA.heap.size), 1, none⟩ (.int .i64 0)).setCell ⟨(wA.heap.size), 2, none⟩ (.string A)) := ((((((SA93).setCell hzA91_6 (.int .i64 3))).setCell hzA91_6 (.int .i64 0))).setCell hzA91_6 (.string A))
    have BA97_6 : Hid (Blk (((wA93.setCell ⟨(wA.heap.size), 0, none⟩ (.int .i64 3)).setCell ⟨(wA.heap.size), 1, none⟩ (.int .i64 0)).setCell ⟨(wA.heap.size), 2, none⟩ (.string A)) (wA.heap.size) 32 [.int .i64 3, .int .i64 0, .string A]) := Lib.hid (((((((BA93_6.out).setSame 0 (.int .i64 3))).setSame 1 (.int .i64 0))).setSame 2 (.string A)))
    refine hK _ _ ⟨SA97, ?_⟩
    clear hK K
    try simp only [Act.put, List.setIfInBounds_toArray, List.set_cons_zero, List.set_cons_succ]
    refine takeH 8 (oi := ⟨some 16, _, _, _, _, _⟩) (v := ?_) rfl (by kernel_rfl) (by kernel_rfl) (by kernel_rfl) (fun _ _ _ h => h) (Or.inl ⟨by rfl, ?hyA98⟩) SA97 ?restA98
    case hyA98 => (intro W hW; (try dsimp only at hW); go_simp; try with_reducible rfl)
    try simp only [Act.put, List.setIfInBounds_toArray, List.set_cons_zero, List.set_cons_succ]
    refine wpAnyH_done (by kernel_rfl) ?_ _
    clear qaA0 qaA1 qaA2
    have D8 := Lib.hid ((D7.out.on SA97).cons (p := (wA.heap.size)) (by omega) BA97_6.out)
    generalize (((wA93.setCell ⟨(wA.heap.size), 0, none⟩ (.int .i64 3)).setCell ⟨(wA.heap.size), 1, none⟩ (.int .i64 0)).setCell ⟨(wA.heap.size), 2, none⟩ (.string A)) = W3 at D8 ⊢
    generalize (wA.heap.size) = ps at D8 ⊢
    go_upto_region 12 with (fail)
    have hBB : Below W3.heap.size W3 ({ W3 with drawn := W3.drawn + 1 } : World) := ⟨rfl, rfl, rfl, Nat.le_refl _, fun _ _ => rfl⟩
    refine wp_region_held (S := Below W3.heap.size W3) (by kernel_rfl) ?_
    have hSB := hBB
    generalize ({ W3 with drawn := W3.drawn + 1 } : World) = wB at hSB hBB ⊢
    have hleB := D8.out.bel.size
    have hslB := hSB.size
    have saB0 : ∀ W, Below W3.heap.size W3 W → W.cell? ⟨ps, 0, none⟩ = some (.int .i64 3) := fun W hW => ((D8.out.on hW).blk _ (List.mem_cons_self)).2.cell 0 _ rfl
    have saB1 : ∀ W, Below W3.heap.size W3 W → W.cell? ⟨ps, 1, none⟩ = some (.int .i64 0) := fun W hW => ((D8.out.on hW).blk _ (List.mem_cons_self)).2.cell 1 _ rfl
    have saB2 : ∀ W, Below W3.heap.size W3 W → W.cell? ⟨ps, 2, none⟩ = some (.string A) := fun W hW => ((D8.out.on hW).blk _ (List.mem_cons_self)).2.cell 2 _ rfl
    have xbB0 : ∀ W, Below W3.heap.size W3 W → W.cell? ⟨x2, 0, none⟩ = some (.int .i64 3) := fun W hW => ((D8.out.on hW).blk _ (List.mem_cons_of_mem _ (List.mem_cons_self))).2.cell 0 _ rfl
    have xbB1 : ∀ W, Below W3.heap.size W3 W → W.cell? ⟨x2, 1, none⟩ = some (.int .i64 0) := fun W hW => ((D8.out.on hW).blk _ (List.mem_cons_of_mem _ (List.mem_cons_self))).2.cell 1 _ rfl
    have xbB2 : ∀ W, Below W3.heap.size W3 W → W.cell? ⟨x2, 2, none⟩ = some (.string X) := fun W hW => ((D8.out.on hW).blk _ (List.mem_cons_of_mem _ (List.mem_cons_self))).2.cell 2 _ rfl
    have xaB0 : ∀ W, Below W3.heap.size W3 W → W.cell? ⟨wn5.heap.size, 0, none⟩ = some (.int .i64 3) := fun W hW => ((D8.out.on hW).blk _ (List.mem_cons_of_mem _ (List.mem_cons_of_mem _ (List.mem_cons_self)))).2.cell 0 _ rfl
    have xaB1 : ∀ W, Below W3.heap.size W3 W → W.cell? ⟨wn5.heap.size, 1, none⟩ = some (.int .i64 0) := fun W hW => ((D8.out.on hW).blk _ (List.mem_cons_of_mem _ (List.mem_cons_of_mem _ (List.mem_cons_self)))).2.cell 1 _ rfl
    have xaB2 : ∀ W, Below W3.heap.size W3 W → W.cell? ⟨wn5.heap.size, 2, none⟩ = some (.string X) := fun W hW => ((D8.out.on hW).blk _ (List.mem_cons_of_mem _ (List.mem_cons_of_mem _ (List.mem_cons_self)))).2.cell 2 _ rfl
    have qaB0 : ∀ W, Below W3.heap.size W3 W → W.cell? ⟨w.heap.size, 0, none⟩ = some (.int .i64 k0) := fun W hW => ((D8.out.on hW).blk _ (List.mem_cons_of_mem _ (List.mem_cons_of_mem _ (List.mem_cons_of_mem _ (List.mem_cons_of_mem _ (List.mem_cons_of_mem _ (List.mem_cons_of_mem _ (List.mem_cons_of_mem _ (List.mem_cons_of_mem _ (List.mem_cons_self)))))))))).2.cell 0 _ rfl
    have qaB1 : ∀ W, Below W3.heap.size W3 W → W.cell? ⟨w.heap.size, 1, none⟩ = some (.int .i64 n0) := fun W hW => ((D8.out.on hW).blk _ (List.mem_cons_of_mem _ (List.mem_cons_of_mem _ (List.mem_cons_of_mem _ (List.mem_cons_of_mem _ (List.mem_cons_of_mem _ (List.mem_cons_of_mem _ (List.mem_cons_of_mem _ (List.mem_cons_of_mem _ (List.mem_cons_self)))))))))).2.cell 1 _ rfl
    have qaB2 : ∀ W, Below W3.heap.size W3 W → W.cell? ⟨w.heap.size, 2, none⟩ = some (.string s0) := fun W hW => ((D8.out.on hW).blk _ (List.mem_cons_of_mem _ (List.mem_cons_of_mem _ (List.mem_cons_of_mem _ (List.mem_cons_of_mem _ (List.mem_cons_of_mem _ (List.mem_cons_of_mem _ (List.mem_cons_of_mem _ (List.mem_cons_of_mem _ (List.mem_cons_self)))))))))).2.cell 2 _ rfl
    refine takeH 0 (oi := ⟨some 68, _, _, _, _, _⟩) (v := ?_) rfl (by kernel_rfl) (by kernel_rfl) (by kernel_rfl) (fun _ _ _ h => h) (Or.inl ⟨by rfl, ?hyB99⟩) hSB ?restB99
    case hyB99 => (intro W hW; (try dsimp only at hW); go_simp; try with_reducible rfl)
    try simp only [Act.put, List.setIfInBounds_toArray, List.set_cons_zero, List.set_cons_succ]
    refine takeH 1 (oi := ⟨some 69, _, _, _, _, _⟩) (v := ?_) rfl (by kernel_rfl) (by kernel_rfl) (by kernel_rfl) (fun _ _ _ h => h) (Or.inl ⟨by rfl, ?hyB100⟩) hSB ?restB100
    case hyB100 => (intro W hW; (try dsimp only at hW); go_simp; try with_reducible rfl)
    try simp only [Act.put, List.setIfInBounds_toArray, List.set_cons_zero, List.set_cons_succ]
    refine takeH 2 (oi := ⟨some 70, _, _, _, _, _⟩) (v := ?_) rfl (by kernel_rfl) (by kernel_rfl) (by kernel_rfl) (fun _ _ _ h => h) (Or.inl ⟨by rfl, ?hyB101⟩) hSB ?restB101
    case hyB101 => (intro W hW; (try dsimp only at hW); go_simp; try with_reducible rfl)
    try simp only [Act.put, List.setIfInBounds_toArray, List.set_cons_zero, List.set_cons_succ]
    refine takeH 3 (oi := ⟨some 71, _, _, _, _, _⟩) (v := ?_) rfl (by kernel_rfl) (by kernel_rfl) (by kernel_rfl) (fun _ _ _ h => h) (Or.inl ⟨by rfl, ?hyB102⟩) hSB ?restB102
    case hyB102 => (intro W hW; (try dsimp only at hW); go_simp; try with_reducible rfl)
    try simp only [Act.put, List.setIfInBounds_toArray, List.set_cons_zero, List.set_cons_succ]
    refine takeH 4 (oi := ⟨some 72, _, _, _, _, _⟩) (v := ?_) rfl (by kernel_rfl) (by kernel_rfl) (by kernel_rfl) (fun _ _ _ h => h) (Or.inl ⟨by rfl, ?hyB103⟩) hSB ?restB103
    case hyB103 => (intro W hW; (try dsimp only at hW); go_simp; try with_reducible rfl)
    try simp only [Act.put, List.setIfInBounds_toArray, List.set_cons_zero, List.set_cons_succ]
    refine takeH 5 (oi := ⟨some 73, _, _, _, _, _⟩) (v := ?_) rfl (by kernel_rfl) (by kernel_rfl) (by kernel_rfl) (fun _ _ _ h => h) (Or.inl ⟨by rfl, ?hyB104⟩) hSB ?restB104
    case hyB104 => (intro W hW; (try dsimp only at hW); go_simp; try with_reducible rfl)
    try simp only [Act.put, List.setIfInBounds_toArray, List.set_cons_zero, List.set_cons_succ]
    refine takeH 6 (oi := ⟨some 74, _, _, _, _, _⟩) (v := ?_) rfl (by kernel_rfl) (by kernel_rfl) (by kernel_rfl) (fun _ _ _ h => h) (Or.inl ⟨by rfl, ?hyB105⟩) hSB ?restB105
    case hyB105 => (intro W hW; (try dsimp only at hW); go_simp; try with_reducible rfl)
    try simp only [Act.put, List.setIfInBounds_toArray, List.set_cons_zero, List.set_cons_succ]
    refine takeH 7 (oi := ⟨some 75, _, _, _, _, _⟩) (v := ?_) rfl (by kernel_rfl) (by kernel_rfl) (by kernel_rfl) (fun _ _ _ h => h) (Or.inl ⟨by rfl, ?hyB106⟩) hSB ?restB106
    case hyB106 => (intro W hW; (try dsimp only at hW); go_simp; try with_reducible rfl)
    try simp only [Act.put, List.setIfInBounds_toArray, List.set_cons_zero, List.set_cons_succ]
    refine takeH 8 (oi := ⟨some 76, _, _, _, _, _⟩) (v := ?_) rfl (by kernel_rfl) (by kernel_rfl) (by kernel_rfl) (fun _ _ _ h => h) (Or.inl ⟨by rfl, ?hyB107⟩) hSB ?restB107
    case hyB107 => (intro W hW; (try dsimp only at hW); go_simp; try with_reducible rfl)
    try simp only [Act.put, List.setIfInBounds_toArray, List.set_cons_zero, List.set_cons_succ]
    refine takeH 9 (oi := ⟨some 77, _, _, _, _, _⟩) (v := ?_) rfl (by kernel_rfl) (by kernel_rfl) (by kernel_rfl) (fun _ _ _ h => h) (Or.inl ⟨by rfl, ?hyB108⟩) hSB ?restB108
    case hyB108 => (intro W hW; (try dsimp only at hW); go_simp; try with_reducible rfl)
    try simp only [Act.put, List.setIfInBounds_toArray, List.set_cons_zero, List.set_cons_succ]
    refine takeH 10 (oi := ⟨some 78, _, _, _, _, _⟩) (v := ?_) rfl (by kernel_rfl) (by kernel_rfl) (by kernel_rfl) (fun _ _ _ h => h) (Or.inl ⟨by rfl, ?hyB109⟩) hSB ?restB109
    case hyB109 => (intro W hW; (try dsimp only at hW); go_simp; try with_reducible rfl)
    try simp only [Act.put, List.setIfInBounds_toArray, List.set_cons_zero, List.set_cons_succ]
    refine takeH 11 (oi := ⟨some 79, _, _, _, _, _⟩) (v := ?_) rfl (by kernel_rfl) (by kernel_rfl) (by kernel_rfl) (fun _ _ _ h => h) (Or.inl ⟨by rfl, ?hyB110⟩) hSB ?restB110
    case hyB110 => (intro W hW; (try dsimp only at hW); go_simp; try with_reducible rfl)
    try simp only [Act.put, List.setIfInBounds_toArray, List.set_cons_zero, List.set_cons_succ]
    refine takeH 12 (oi := ⟨some 80, _, _, _, _, _⟩) (v := ?_) rfl (by kernel_rfl) (by kernel_rfl) (by kernel_rfl) (fun _ _ _ h => h) (Or.inl ⟨by rfl, ?hyB111⟩) hSB ?restB111
    case hyB111 => (intro W hW; (try dsimp only at hW); go_simp; try with_reducible rfl)
    try simp only [Act.put, List.setIfInBounds_toArray, List.set_cons_zero, List.set_cons_succ]
    refine takeH 13 (oi := ⟨some 81, _, _, _, _, _⟩) (v := ?_) rfl (by kernel_rfl) (by kernel_rfl) (by kernel_rfl) (fun _ _ _ h => h) (Or.inl ⟨by rfl, ?hyB112⟩) hSB ?restB112
    case hyB112 => (intro W hW; (try dsimp only at hW); go_simp; try with_reducible rfl)
    try simp only [Act.put, List.setIfInBounds_toArray, List.set_cons_zero, List.set_cons_succ]
    refine takeH 14 (oi := ⟨some 82, _, _, _, _, _⟩) (v := ?_) rfl (by kernel_rfl) (by kernel_rfl) (by kernel_rfl) (fun _ _ _ h => h) (Or.inl ⟨by rfl, ?hyB113⟩) hSB ?restB113
    case hyB113 => (intro W hW; (try dsimp only at hW); go_simp; try with_reducible rfl)
    try simp only [Act.put, List.setIfInBounds_toArray, List.set_cons_zero, List.set_cons_succ]
    refine takeH 15 (oi := ⟨some 83, _, _, _, _, _⟩) (v := ?_) rfl (by kernel_rfl) (by kernel_rfl) (by kernel_rfl) (fun _ _ _ h => h) (Or.inl ⟨by rfl, ?hyB114⟩) hSB ?restB114
    case hyB114 => (intro W hW; (try dsimp only at hW); go_simp; try with_reducible rfl)
    try simp only [Act.put, List.setIfInBounds_toArray, List.set_cons_zero, List.set_cons_succ]
    refine takeH 16 (oi := ⟨some 84, _, _, _, _, _⟩) (v := ?_) rfl (by kernel_rfl) (by kernel_rfl) (by kernel_rfl) (fun _ _ _ h => h) (Or.inl ⟨by rfl, ?hyB115⟩) hSB ?restB115
    case hyB115 => (intro W hW; (try dsimp only at hW); go_simp; try with_reducible rfl)
    try simp only [Act.put, List.setIfInBounds_toArray, List.set_cons_zero, List.set_cons_succ]
    refine takeH 17 (oi := ⟨some 85, _, _, _, _, _⟩) (v := ?_) rfl (by kernel_rfl) (by kernel_rfl) (by kernel_rfl) (fun _ _ _ h => h) (Or.inl ⟨by rfl, ?hyB116⟩) hSB ?restB116
    case hyB116 => (intro W hW; (try dsimp only at hW); go_simp; try with_reducible rfl)
    try simp only [Act.put, List.setIfInBounds_toArray, List.set_cons_zero, List.set_cons_succ]
    refine one (i := 18) (by kernel_rfl) ?_
    refine wpOp_wanted rfl (by rfl) fun K hK => ?_
    go_simp
    with_reducible refine (PR0.out _ (T0.out.on (D8.out.on hSB).bel)).mono ?_
    rintro e wB117 ⟨rfl, hb⟩
    have SB117 : Below W3.heap.size W3 wB117 := hSB.trans (hb.mono hSB.size)
    clear hb
    refine hK _ _ ⟨SB117, ?_⟩
    clear hK K
    try simp only [Act.put, List.setIfInBounds_toArray, List.set_cons_zero, List.set_cons_succ]
    refine one (i := 19) (by kernel_rfl) ?_
    refine wpOp_wanted rfl (by rfl) fun K hK => ?_
    go_simp
    with_reducible refine (hStr A _).mono ?_
    rintro e wB118 ⟨rfl, hb⟩
    have SB118 : Below W3.heap.size W3 wB118 := SB117.trans (hb.mono SB117.size)
    clear hb
    refine hK _ _ ⟨SB118, ?_⟩
    clear hK K
    try simp only [Act.put, List.setIfInBounds_toArray, List.set_cons_zero, List.set_cons_succ]
    refine takeH 20 (oi := ⟨some 88, _, _, _, _, _⟩) (v := ?_) rfl (by kernel_rfl) (by kernel_rfl) (by kernel_rfl) (fun _ _ _ h => h) (Or.inl ⟨by rfl, ?hyB119⟩) SB118 ?restB119
    case hyB119 => (intro W hW; (try dsimp only at hW); go_simp; try with_reducible rfl)
    try simp only [Act.put, List.setIfInBounds_toArray, List.set_cons_zero, List.set_cons_succ]
    refine takeH 21 (oi := ⟨some 89, _, _, _, _, _⟩) (v := ?_) rfl (by kernel_rfl) (by kernel_rfl) (by kernel_rfl) (fun _ _ _ h => h) (Or.inl ⟨by rfl, ?hyB120⟩) SB118 ?restB120
    case hyB120 => (intro W hW; (try dsimp only at hW); go_simp; try with_reducible rfl)
    try simp only [Act.put, List.setIfInBounds_toArray, List.set_cons_zero, List.set_cons_succ]
    refine wpAnyH_done (by kernel_rfl) ?_ _
    clear saB0 saB1 saB2 xbB0 xbB1 xbB2 xaB0 xaB1 xaB2 qaB0 qaB1 qaB2
    have D9 := Lib.hid (D8.out.on SB118)
    generalize wB118 = W4 at D9 ⊢
    have xa0 := (D9.out.blk _ (List.mem_cons_of_mem _ (List.mem_cons_of_mem _ (List.mem_cons_self)))).2.cell 0 _ rfl; have xaz0 := (D9.out.blk _ (List.mem_cons_of_mem _ (List.mem_cons_of_mem _ (List.mem_cons_self)))).2.frozen 0; have xa1 := (D9.out.blk _ (List.mem_cons_of_mem _ (List.mem_cons_of_mem _ (List.mem_cons_self)))).2.cell 1 _ rfl; have xaz1 := (D9.out.blk _ (List.mem_cons_of_mem _ (List.mem_cons_of_mem _ (List.mem_cons_self)))).2.frozen 1; have xa2 := (D9.out.blk _ (List.mem_cons_of_mem _ (List.mem_cons_of_mem _ (List.mem_cons_self)))).2.cell 2 _ rfl; have xaz2 := (D9.out.blk _ (List.mem_cons_of_mem _ (List.mem_cons_of_mem _ (List.mem_cons_self)))).2.frozen 2; have xalt := (D9.out).bl (List.mem_cons_of_mem _ (List.mem_cons_of_mem _ (List.mem_cons_self)))
    go_upto_region 15 with (go_at_call 56; go_loud (with_reducible refine (ON.out _ (T0.out.on D9.out.bel)).mono ?_; rintro e wn ⟨rfl, hb⟩; have D10 := Lib.hid ((D9.out).on hb); clear hb))
    have D11 := Lib.hid (D10.out.new 32 [.int .i64 2, .int .i64 ((A.size : Int) + (B.size : Int) + (C.size : Int)), .string ⟨#[]⟩])
    obtain ⟨w5, hw5⟩ : ∃ z, z = wn.alloc (.cells #[.int .i64 2, .int .i64 ((A.size : Int) + (B.size : Int) + (C.size : Int)), .string ⟨#[]⟩] 32) := ⟨_, rfl⟩
    obtain ⟨xn, hxn⟩ : ∃ z, z = wn.heap.size := ⟨_, rfl⟩
    rw [← hw5] at D11
    rw [← hxn] at D11
    simp only [← hw5, ← hxn]
    clear hw5 hxn
    have hBE : Below w5.heap.size w5 ({ w5 with drawn := w5.drawn + 1 } : World) := ⟨rfl, rfl, rfl, Nat.le_refl _, fun _ _ => rfl⟩
    refine wp_region_held (S := Below w5.heap.size w5) (by kernel_rfl) ?_
    have hSE := hBE
    generalize ({ w5 with drawn := w5.drawn + 1 } : World) = wE at hSE hBE ⊢
    have hleE := D11.out.bel.size
    have hslE := hSE.size
    have naE0 : ∀ W, Below w5.heap.size w5 W → W.cell? ⟨xn, 0, none⟩ = some (.int .i64 2) := fun W hW => ((D11.out.on hW).blk _ (List.mem_cons_self)).2.cell 0 _ rfl
    have naE1 : ∀ W, Below w5.heap.size w5 W → W.cell? ⟨xn, 1, none⟩ = some (.int .i64 ((A.size : Int) + (B.size : Int) + (C.size : Int))) := fun W hW => ((D11.out.on hW).blk _ (List.mem_cons_self)).2.cell 1 _ rfl
    have naE2 : ∀ W, Below w5.heap.size w5 W → W.cell? ⟨xn, 2, none⟩ = some (.string ⟨#[]⟩) := fun W hW => ((D11.out.on hW).blk _ (List.mem_cons_self)).2.cell 2 _ rfl
    have qaE0 : ∀ W, Below w5.heap.size w5 W → W.cell? ⟨w.heap.size, 0, none⟩ = some (.int .i64 k0) := fun W hW => ((D11.out.on hW).blk _ (List.mem_cons_of_mem _ (List.mem_cons_of_mem _ (List.mem_cons_of_mem _ (List.mem_cons_of_mem _ (List.mem_cons_of_mem _ (List.mem_cons_of_mem _ (List.mem_cons_of_mem _ (List.mem_cons_of_mem _ (List.mem_cons_of_mem _ (List.mem_cons_self))))))))))).2.cell 0 _ rfl
    have qaE1 : ∀ W, Below w5.heap.size w5 W → W.cell? ⟨w.heap.size, 1, none⟩ = some (.int .i64 n0) := fun W hW => ((D11.out.on hW).blk _ (List.mem_cons_of_mem _ (List.mem_cons_of_mem _ (List.mem_cons_of_mem _ (List.mem_cons_of_mem _ (List.mem_cons_of_mem _ (List.mem_cons_of_mem _ (List.mem_cons_of_mem _ (List.mem_cons_of_mem _ (List.mem_cons_of_mem _ (List.mem_cons_self))))))))))).2.cell 1 _ rfl
    have qaE2 : ∀ W, Below w5.heap.size w5 W → W.cell? ⟨w.heap.size, 2, none⟩ = some (.string s0) := fun W hW => ((D11.out.on hW).blk _ (List.mem_cons_of_mem _ (List.mem_cons_of_mem _ (List.mem_cons_of_mem _ (List.mem_cons_of_mem _ (List.mem_cons_of_mem _ (List.mem_cons_of_mem _ (List.mem_cons_of_mem _ (List.mem_cons_of_mem _ (List.mem_cons_of_mem _ (List.mem_cons_self))))))))))).2.cell 2 _ rfl
    have uaE0 : ∀ W, Below w5.heap.size w5 W → W.cell? ⟨w.heap.size + 1, 0, none⟩ = some (.int .i64 k1) := fun W hW => ((D11.out.on hW).blk _ (List.mem_cons_of_mem _ (List.mem_cons_of_mem _ (List.mem_cons_of_mem _ (List.mem_cons_of_mem _ (List.mem_cons_of_mem _ (List.mem_cons_of_mem _ (List.mem_cons_of_mem _ (List.mem_cons_of_mem _ (List.mem_cons_self)))))))))).2.cell 0 _ rfl
    have uaE1 : ∀ W, Below w5.heap.size w5 W → W.cell? ⟨w.heap.size + 1, 1, none⟩ = some (.int .i64 n1) := fun W hW => ((D11.out.on hW).blk _ (List.mem_cons_of_mem _ (List.mem_cons_of_mem _ (List.mem_cons_of_mem _ (List.mem_cons_of_mem _ (List.mem_cons_of_mem _ (List.mem_cons_of_mem _ (List.mem_cons_of_mem _ (List.mem_cons_of_mem _ (List.mem_cons_self)))))))))).2.cell 1 _ rfl
    have uaE2 : ∀ W, Below w5.heap.size w5 W → W.cell? ⟨w.heap.size + 1, 2, none⟩ = some (.string s1) := fun W hW => ((D11.out.on hW).blk _ (List.mem_cons_of_mem _ (List.mem_cons_of_mem _ (List.mem_cons_of_mem _ (List.mem_cons_of_mem _ (List.mem_cons_of_mem _ (List.mem_cons_of_mem _ (List.mem_cons_of_mem _ (List.mem_cons_of_mem _ (List.mem_cons_self)))))))))).2.cell 2 _ rfl
    have vaE0 : ∀ W, Below w5.heap.size w5 W → W.cell? ⟨w.heap.size + 1 + 1, 0, none⟩ = some (.int .i64 k2) := fun W hW => ((D11.out.on hW).blk _ (List.mem_cons_of_mem _ (List.mem_cons_of_mem _ (List.mem_cons_of_mem _ (List.mem_cons_of_mem _ (List.mem_cons_of_mem _ (List.mem_cons_of_mem _ (List.mem_cons_of_mem _ (List.mem_cons_self))))))))).2.cell 0 _ rfl
    have vaE1 : ∀ W, Below w5.heap.size w5 W → W.cell? ⟨w.heap.size + 1 + 1, 1, none⟩ = some (.int .i64 n2) := fun W hW => ((D11.out.on hW).blk _ (List.mem_cons_of_mem _ (List.mem_cons_of_mem _ (List.mem_cons_of_mem _ (List.mem_cons_of_mem _ (List.mem_cons_of_mem _ (List.mem_cons_of_mem _ (List.mem_cons_of_mem _ (List.mem_cons_self))))))))).2.cell 1 _ rfl
    have vaE2 : ∀ W, Below w5.heap.size w5 W → W.cell? ⟨w.heap.size + 1 + 1, 2, none⟩ = some (.string s2) := fun W hW => ((D11.out.on hW).blk _ (List.mem_cons_of_mem _ (List.mem_cons_of_mem _ (List.mem_cons_of_mem _ (List.mem_cons_of_mem _ (List.mem_cons_of_mem _ (List.mem_cons_of_mem _ (List.mem_cons_of_mem _ (List.mem_cons_self))))))))).2.cell 2 _ rfl
    refine takeH 0 (oi := ⟨some 95, _, _, _, _, _⟩) (v := ?_) rfl (by kernel_rfl) (by kernel_rfl) (by kernel_rfl) (fun _ _ _ h => h) (Or.inl ⟨by rfl, ?hyE121⟩) hSE ?restE121
    case hyE121 => (intro W hW; (try dsimp only at hW); go_simp; try with_reducible rfl)
    try simp only [Act.put, List.setIfInBounds_toArray, List.set_cons_zero, List.set_cons_succ]
    refine takeH 1 (oi := ⟨some 96, _, _, _, _, _⟩) (v := ?_) rfl (by kernel_rfl) (by kernel_rfl) (by kernel_rfl) (fun _ _ _ h => h) (Or.inl ⟨by rfl, ?hyE122⟩) hSE ?restE122
    case hyE122 => (intro W hW; (try dsimp only at hW); go_simp; try with_reducible rfl)
    try simp only [Act.put, List.setIfInBounds_toArray, List.set_cons_zero, List.set_cons_succ]
    refine takeH 4 (oi := ⟨some 99, _, _, _, _, _⟩) (v := ?_) rfl (by kernel_rfl) (by kernel_rfl) (by kernel_rfl) (fun _ _ _ h => h) (Or.inl ⟨by rfl, ?hyE123⟩) hSE ?restE123
    case hyE123 => (intro W hW; (try dsimp only at hW); go_simp; try with_reducible rfl)
    try simp only [Act.put, List.setIfInBounds_toArray, List.set_cons_zero, List.set_cons_succ]
    refine takeH 8 (oi := ⟨some 103, _, _, _, _, _⟩) (v := ?_) rfl (by kernel_rfl) (by kernel_rfl) (by kernel_rfl) (fun _ _ _ h => h) (Or.inl ⟨by rfl, ?hyE124⟩) hSE ?restE124
    case hyE124 => (intro W hW; (try dsimp only at hW); go_simp; try with_reducible rfl)
    try simp only [Act.put, List.setIfInBounds_toArray, List.set_cons_zero, List.set_cons_succ]
    refine one (i := 2) (by kernel_rfl) ?_
    refine wpOp_wanted rfl (by rfl) fun K hK => ?_
    go_simp
    with_reducible refine (PR0.out _ (T0.out.on (D11.out.on hSE).bel)).mono ?_
    rintro e wE125 ⟨rfl, hb⟩
    have SE125 : Below w5.heap.size w5 wE125 := hSE.trans (hb.mono hSE.size)
    clear hb
    refine hK _ _ ⟨SE125, ?_⟩
    clear hK K
    try simp only [Act.put, List.setIfInBounds_toArray, List.set_cons_zero, List.set_cons_succ]
    refine takeH 3 (oi := ⟨some 98, _, _, _, _, _⟩) (v := ?_) rfl (by kernel_rfl) (by kernel_rfl) (by kernel_rfl) (fun _ _ _ h => h) (Or.inl ⟨by rfl, ?hyE126⟩) SE125 ?restE126
    case hyE126 => (intro W hW; (try dsimp only at hW); go_simp; try with_reducible rfl)
    try simp only [Act.put, List.setIfInBounds_toArray, List.set_cons_zero, List.set_cons_succ]
    refine one (i := 5) (by kernel_rfl) ?_
    refine wpOp_wanted rfl (by rfl) fun K hK => ?_
    go_simp
    with_reducible refine (PR1.out _ (T0.out.on (D11.out.on SE125).bel)).mono ?_
    rintro e wE127 ⟨rfl, hb⟩
    have SE127 : Below w5.heap.size w5 wE127 := SE125.trans (hb.mono SE125.size)
    clear hb
    refine hK _ _ ⟨SE127, ?_⟩
    clear hK K
    try simp only [Act.put, List.setIfInBounds_toArray, List.set_cons_zero, List.set_cons_succ]
    refine takeH 6 (oi := ⟨some 101, _, _, _, _, _⟩) (v := ?_) rfl (by kernel_rfl) (by kernel_rfl) (by kernel_rfl) (fun _ _ _ h => h) (Or.inl ⟨by rfl, ?hyE128⟩) SE127 ?restE128
    case hyE128 => (intro W hW; (try dsimp only at hW); go_simp; try with_reducible rfl)
    try simp only [Act.put, List.setIfInBounds_toArray, List.set_cons_zero, List.set_cons_succ]
    refine takeH 7 (oi := ⟨some 102, _, _, _, _, _⟩) (v := ?_) rfl (by kernel_rfl) (by kernel_rfl) (by kernel_rfl) (fun _ _ _ h => h) (Or.inl ⟨by rfl, ?hyE129⟩) SE127 ?restE129
    case hyE129 => (intro W hW; (try dsimp only at hW); go_simp; try with_reducible rfl)
    try simp only [Act.put, List.setIfInBounds_toArray, List.set_cons_zero, List.set_cons_succ]
    refine one (i := 9) (by kernel_rfl) ?_
    refine wpOp_wanted rfl (by rfl) fun K hK => ?_
    go_simp
    with_reducible refine (PR2.out _ (T0.out.on (D11.out.on SE127).bel)).mono ?_
    rintro e wE130 ⟨rfl, hb⟩
    have SE130 : Below w5.heap.size w5 wE130 := SE127.trans (hb.mono SE127.size)
    clear hb
    refine hK _ _ ⟨SE130, ?_⟩
    clear hK K
    try simp only [Act.put, List.setIfInBounds_toArray, List.set_cons_zero, List.set_cons_succ]
    refine takeH 10 (oi := ⟨some 105, _, _, _, _, _⟩) (v := ?_) rfl (by kernel_rfl) (by kernel_rfl) (by kernel_rfl) (fun _ _ _ h => h) (Or.inl ⟨by rfl, ?hyE131⟩) SE130 ?restE131
    case hyE131 => (intro W hW; (try dsimp only at hW); go_simp; try with_reducible rfl)
    try simp only [Act.put, List.setIfInBounds_toArray, List.set_cons_zero, List.set_cons_succ]
    refine takeH 11 (oi := ⟨some 106, _, _, _, _, _⟩) (v := ?_) rfl (by kernel_rfl) (by kernel_rfl) (by kernel_rfl) (fun _ _ _ h => h) (Or.inl ⟨by rfl, ?hyE132⟩) SE130 ?restE132
    case hyE132 => (intro W hW; (try dsimp only at hW); go_simp; try with_reducible rfl)
    try simp only [Act.put, List.setIfInBounds_toArray, List.set_cons_zero, List.set_cons_succ]
    refine one (i := 12) (by kernel_rfl) ?_
    refine wpOp_wanted rfl (by rfl) fun K hK => ?_
    go_simp
    with_reducible refine (hInt _ _).mono ?_
    rintro e wE133 ⟨rfl, hb⟩
    have SE133 : Below w5.heap.size w5 wE133 := SE130.trans (hb.mono SE130.size)
    clear hb
    refine hK _ _ ⟨SE133, ?_⟩
    clear hK K
    try simp only [Act.put, List.setIfInBounds_toArray, List.set_cons_zero, List.set_cons_succ]
    refine takeH 13 (oi := ⟨some 108, _, _, _, _, _⟩) (v := ?_) rfl (by kernel_rfl) (by kernel_rfl) (by kernel_rfl) (fun _ _ _ h => h) (Or.inl ⟨by rfl, ?hyE134⟩) SE133 ?restE134
    case hyE134 => (intro W hW; (try dsimp only at hW); go_simp; try with_reducible rfl)
    try simp only [Act.put, List.setIfInBounds_toArray, List.set_cons_zero, List.set_cons_succ]
    refine takeH 14 (oi := ⟨some 6, _, _, _, _, _⟩) (v := ?_) rfl (by kernel_rfl) (by kernel_rfl) (by kernel_rfl) (fun _ _ _ h => h) (Or.inl ⟨by rfl, ?hyE135⟩) SE133 ?restE135
    case hyE135 => (intro W hW; (try dsimp only at hW); go_simp; try with_reducible rfl)
    try simp only [Act.put, List.setIfInBounds_toArray, List.set_cons_zero, List.set_cons_succ]
    refine wpAnyH_done (by kernel_rfl) ?_ _
    clear naE0 naE1 naE2 qaE0 qaE1 qaE2 uaE0 uaE1 uaE2 vaE0 vaE1 vaE2
    go_wp2_with fail
    go_ret
    exact ⟨rfl, (D11.out.on SE133).bel⟩
theorem strT_le (k n : Int) (s : ByteArray) (hn : inR n) (hs : s.size ≤ 10000) : (stringT k n s).1.size ≤ 10000 := by
  have h := itoaS_size n hn
  unfold stringT
  split
  · show (itoaS n).size ≤ _; omega
  · split
    · exact hs
    · decide
theorem strT_print (k n : Int) (s : ByteArray) (hn : inR n) (h : (stringT k n s).2 = true) : printF k n s = some (stringT k n s).1 := by
  unfold printF printS
  rw [if_pos hn]
  unfold stringT at h ⊢
  by_cases h2 : k = 2
  · subst h2; rfl
  by_cases h3 : k = 3
  · subst h3; rfl
  · rw [if_neg h2, if_neg h3] at h; cases h
theorem doJ (k n : Int) (s : ByteArray) (k2 n2 : Int) (s2 : ByteArray) (hn : inR n) (hn2 : inR n2) (hs : s.size ≤ 20000) (hs2 : s2.size ≤ 20000) : doF 11 k n s k2 n2 s2 1048576 = some (joinT (stringT k n s) (stringT k2 n2 s2) 1048576) := by
  unfold doF
  rw [if_pos ⟨⟨hn, hn2⟩, by omega, by omega⟩]
  rfl
theorem joinOK (A B : ByteArray) (h : A.size + B.size ≤ 1048576) : joinT (A, true) (B, true) 1048576 = (3, 0, A ++ B, 0) := by
  unfold joinT
  rw [if_pos ⟨rfl, rfl⟩]
  have e : mx 1048576 0 = 1048576 := by decide
  rw [e, if_neg (by dsimp only; omega)]
theorem app_nil (A : ByteArray) : A ++ (⟨#[]⟩ : ByteArray) = A := by
  apply ByteArray.ext; simp [ByteArray.data_append]
theorem concats_walk (k0 n0 : Int) (s0 : ByteArray) (k1 n1 : Int) (s1 : ByteArray) (k2 n2 : Int) (s2 : ByteArray) (hn0 : inR n0) (hn1 : inR n1) (hn2 : inR n2) (w : World) (hT : Tab w) : Calls Tryd.prog 11 #[.agg #[.int .i64 k0, .int .i64 n0, .string s0], .agg #[.int .i64 k1, .int .i64 n1, .string s1], .agg #[.int .i64 k2, .int .i64 n2, .string s2]] w fun e w' => e = .returned (.bool true) ∧ Below w.heap.size w w' := by
  by_cases g : (decide (10000 < (s0.size : Int)) || decide (10000 < (s1.size : Int)) || decide (10000 < (s2.size : Int))) = true
  · exact coG k0 n0 s0 k1 n1 s1 k2 n2 s2 (fun b W h => by rw [← g]; exact hGreat3 k0 n0 s0 k1 n1 s1 k2 n2 s2 b W _ _ _ h rfl rfl rfl) w hT
  have g' := Bool.eq_false_iff.mpr g
  have hg := fun b W h => (by rw [← g']; exact hGreat3 k0 n0 s0 k1 n1 s1 k2 n2 s2 b W _ _ _ h rfl rfl rfl : Calls Tryd.prog 44 #[.slice (some ⟨b, 0, none⟩) 3 3] W fun e w' => e = .returned (.bool false) ∧ Below W.heap.size W w')
  have hz : s0.size ≤ 10000 ∧ s1.size ≤ 10000 ∧ s2.size ≤ 10000 := by simp at g'; omega
  clear g g'
  obtain ⟨z0, z1, z2⟩ := hz
  have d1 := doJ k0 n0 s0 k1 n1 s1 hn0 hn1 (by omega) (by omega)
  have d2 := doJ k1 n1 s1 k2 n2 s2 hn1 hn2 (by omega) (by omega)
  have l0 := strT_le k0 n0 s0 hn0 z0
  have l1 := strT_le k1 n1 s1 hn1 z1
  have l2 := strT_le k2 n2 s2 hn2 z2
  have q0 := strT_print k0 n0 s0 hn0
  have q1 := strT_print k1 n1 s1 hn1
  have q2 := strT_print k2 n2 s2 hn2
  have e3 : ∀ S : ByteArray, stringT 3 0 S = (S, true) := fun S => rfl
  have r0 : inR 0 := ⟨by decide, by decide⟩
  rcases t0 : stringT k0 n0 s0 with ⟨A, a⟩
  rcases t1 : stringT k1 n1 s1 with ⟨B, b⟩
  rcases t2 : stringT k2 n2 s2 with ⟨C, c⟩
  rw [t0] at d1 l0 q0
  rw [t1] at d1 d2 l1 q1
  rw [t2] at d2 l2 q2
  dsimp only at l0 l1 l2 q0 q1 q2
  by_cases hab : a = true ∧ b = true
  · obtain ⟨rfl, rfl⟩ := hab
    rw [joinOK A B (by omega)] at d1
    cases c
    · have e : joinT (B, true) (C, false) 1048576 = no 18 := by unfold joinT; rw [if_neg (fun h => by cases h.2)]
      rw [e] at d2
      exact coE2 k0 n0 s0 k1 n1 s1 k2 n2 s2 A B hg d1 d2 w hT
    · rw [joinOK B C (by omega)] at d2
      have d3 := doJ 3 0 (A ++ B) k2 n2 s2 r0 hn2 (by rw [ByteArray.size_append]; omega) (by omega)
      rw [e3, t2, joinOK (A ++ B) C (by rw [ByteArray.size_append]; omega)] at d3
      have d4 := doJ k0 n0 s0 3 0 (B ++ C) hn0 r0 (by omega) (by rw [ByteArray.size_append]; omega)
      rw [e3, t0, joinOK A (B ++ C) (by rw [ByteArray.size_append]; omega), ← ByteArray.append_assoc] at d4
      have d5 := doJ k0 n0 s0 3 0 ⟨#[]⟩ hn0 r0 (by omega) (by decide)
      rw [e3, t0, joinOK A ⟨#[]⟩ (by show A.size + 0 ≤ _; omega), app_nil] at d5
      refine coOK k0 n0 s0 k1 n1 s1 k2 n2 s2 A B C (A ++ B ++ C) hg d1 d2 d3 d4 d5 (q0 rfl) (q1 rfl) (q2 rfl) ?_ (by rw [IntKind.wrap_i64]; omega) (by rw [IntKind.wrap_i64]; omega) w hT
      unfold oneF
      rw [if_pos (by rw [ByteArray.size_append, ByteArray.size_append]; omega)]
      have e : oneT 23 3 0 (A ++ B ++ C) = (2, ((A ++ B ++ C).size : Int), ⟨#[]⟩, 0) := rfl
      rw [e, ByteArray.size_append, ByteArray.size_append]
      simp
  · have e : joinT (A, a) (B, b) 1048576 = no 18 := by unfold joinT; rw [if_neg hab]
    rw [e] at d1
    obtain ⟨r1, r2, r3, r4, er⟩ : ∃ r1 r2 r3 r4, joinT (B, b) (C, c) 1048576 = (r1, r2, r3, r4) := ⟨_, _, _, _, rfl⟩
    rw [er] at d2
    exact coE1 k0 n0 s0 k1 n1 s1 k2 n2 s2 r1 r2 r3 r4 hg d1 d2 w hT
end Go.Proofs.YtpgpmldaggpciaaDoor.GW
