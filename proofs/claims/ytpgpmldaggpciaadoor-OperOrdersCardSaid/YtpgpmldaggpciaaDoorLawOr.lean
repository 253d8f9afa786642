/- The statement OperOrders, walked by hand. -/
import Derived.Test.YtpgpmldaggpciaaDoorGivenD
import Derived.Test.YtpgpmldaggpciaaDoorGreat
import Derived.Test.YtpgpmldaggpciaaDoorOD
import Derived.Test.YtpgpmldaggpciaaDoorAliveE
set_option linter.unusedVariables false
set_option linter.unusedSimpArgs false
namespace Go.Proofs.YtpgpmldaggpciaaDoor.GW
open Go.RowKit Go.Proofs.YtpgpmldaggpciaaDoorW.PrintWords Go.Proofs.YtpgpmldaggpciaaDoorW.PrintLast Go.Proofs.YtpgpmldaggpciaaDoorW.PrintMore Go.Proofs.YtpgpmldaggpciaaDoor.Maths Go.Proofs.YtpgpmldaggpciaaDoor.TabW Go.Proofs.YtpgpmldaggpciaaDoor.HK Go.Proofs.YtpgpmldaggpciaaDoor.Val
theorem bl_irr : ∀ l : List UInt8, Op.bytesLess l l = false
  | [] => rfl
  | a :: l => by simp [Op.bytesLess, bl_irr l]
theorem bl_tri : ∀ l m : List UInt8, l ≠ m → (Op.bytesLess l m = true ∧ Op.bytesLess m l = false) ∨ (Op.bytesLess l m = false ∧ Op.bytesLess m l = true)
  | [], [], h => absurd rfl h
  | [], _ :: _, _ => by simp [Op.bytesLess]
  | _ :: _, [], _ => by simp [Op.bytesLess]
  | a :: l, b :: m, h => by
    by_cases hab : a = b
    · subst hab
      have := bl_tri l m (fun e => h (by rw [e]))
      simpa [Op.bytesLess] using this
    · have h1 : (a == b) = false := beq_eq_false_iff_ne.2 hab
      have h2 : (b == a) = false := beq_eq_false_iff_ne.2 (fun e => hab e.symm)
      simp only [Op.bytesLess, h1, h2, Bool.false_and, Bool.or_false, decide_eq_true_eq, decide_eq_false_iff_not]
      have h3 : a.toNat ≠ b.toNat := fun e => hab (UInt8.toNat_inj.1 e)
      simp only [UInt8.lt_iff_toNat_lt]; omega
theorem lessB_ok (k n : Int) (s : ByteArray) (k2 n2 : Int) (s2 : ByteArray) : (lessB k n s k2 n2 s2).2 = (lessB k2 n2 s2 k n s).2 := by
  unfold lessB
  by_cases h : k = k2
  · subst h; by_cases h2 : k = 2 <;> by_cases h3 : k = 3 <;> simp [h2, h3]
  · rw [if_neg h, if_neg (Ne.symm h)]
theorem tri (k n : Int) (s : ByteArray) (k2 n2 : Int) (s2 : ByteArray) (h : (lessB k n s k2 n2 s2).2 = true) : ((lessB k n s k2 n2 s2).1 = true ∧ (lessB k2 n2 s2 k n s).1 = false ∧ rawB k n s k2 n2 s2 = false) ∨ ((lessB k n s k2 n2 s2).1 = false ∧ (lessB k2 n2 s2 k n s).1 = true ∧ rawB k n s k2 n2 s2 = false) ∨ ((lessB k n s k2 n2 s2).1 = false ∧ (lessB k2 n2 s2 k n s).1 = false ∧ rawB k n s k2 n2 s2 = true) := by
  unfold lessB at h ⊢
  by_cases hk : k = k2
  · subst hk
    by_cases h2 : k = 2
    · subst h2
      have e : rawB 2 n s 2 n2 s2 = decide (n = n2) := by unfold rawB ownN ownS; simp
      rw [e]
      simp only [if_true, decide_eq_true_eq, decide_eq_false_iff_not]
      omega
    · by_cases h3 : k = 3
      · subst h3
        have e : rawB 3 n s 3 n2 s2 = decide (s = s2) := by unfold rawB ownN ownS; simp
        rw [e]
        simp only [if_true, if_neg (show ¬ ((3 : Int) = 2) by decide)]
        by_cases hs : s = s2
        · subst hs
          exact Or.inr (Or.inr ⟨bl_irr _, bl_irr _, decide_eq_true rfl⟩)
        · rcases bl_tri _ _ (fun e => hs (toList_inj.1 e)) with ⟨a, b⟩ | ⟨a, b⟩
          · exact Or.inl ⟨a, b, decide_eq_false hs⟩
          · exact Or.inr (Or.inl ⟨a, b, decide_eq_false hs⟩)
      · simp [h2, h3] at h
  · simp [hk] at h
set_option maxHeartbeats 2000000 in
theorem hIs (op : Int) (pa pb : Nat) (k n : Int) (s : ByteArray) (k2 n2 : Int) (s2 : ByteArray) (r1 r2 : Int) (r3 : ByteArray) (r4 : Int) (b : Bool) (w : World) (hT : Tab w) (hd : doF op k n s k2 n2 s2 0 = some (r1, r2, r3, r4)) (hb : truthB r1 r2 = b) (hA : Blk w pa 32 [.int .i64 k, .int .i64 n, .string s]) (hB : Blk w pb 32 [.int .i64 k2, .int .i64 n2, .string s2]) :
    Calls Tryd.prog 45 #[.int .i64 op, .pointer (some ⟨pa, 0, none⟩), .pointer (some ⟨pb, 0, none⟩)] w fun e w' => e = .returned (.tuple #[.bool b, .int .i64 r4]) ∧ Below w.heap.size w w' := by
  have T0 := Lib.hid hT
  have D0 := Lib.hid (OD.nil w)
  have X := Lib.hid (fun W hW => do_calls op k n s k2 n2 s2 0 r1 r2 r3 r4 W hW hd)
  have Y := Lib.hid (fun W => hTruth r1 r2 r3 W)
  rw [hb] at Y
  have q0 := hA.cell 0 _ rfl
  have q1 := hA.cell 1 _ rfl
  have q2 := hA.cell 2 _ rfl
  have u0 := hB.cell 0 _ rfl
  have u1 := hB.cell 1 _ rfl
  have u2 := hB.cell 2 _ rfl
  clear hT hd hb hA hB
  go_enter Tryd.func45, Tryd.ntmps45
  go_wp2_with (first | (go_at_call 46; go_loud (with_reducible refine (X.out _ T0.out).mono ?_; rintro e wn ⟨rfl, hb⟩; have D1 := Lib.hid ((D0.out).on hb); clear hb)) | (go_at_call 47; go_loud (with_reducible refine (Y.out _).mono ?_; rintro e wn ⟨rfl, hb⟩; have D2 := Lib.hid ((D1.out.new 32 [.int .i64 r1, .int .i64 r2, .string r3]).on hb); clear hb)))
  go_ret2
  exact ⟨rfl, D2.out.bel⟩
set_option maxHeartbeats 8000000 in
set_option maxRecDepth 20000 in
theorem orG1 (k n : Int) (s : ByteArray) (k2 n2 : Int) (s2 : ByteArray) (g : Bool) (h1 : decide (10000 < (s.size : Int)) = true) (h2 : decide (10000 < (s2.size : Int)) = g) (w : World) (hT : Tab w) : Calls Tryd.prog 8 #[.agg #[.int .i64 k, .int .i64 n, .string s], .agg #[.int .i64 k2, .int .i64 n2, .string s2]] w fun e w' => e = .returned (.bool true) ∧ Below w.heap.size w w' := by
  have T0 := Lib.hid hT
  have D0 := Lib.hid (OD.start2 w 32 [.int .i64 k, .int .i64 n, .string s] [.int .i64 k2, .int .i64 n2, .string s2])
  have AL := Lib.hid (fun W hW => alive_calls true W hW rfl)
  have GR := Lib.hid (fun b W h => hGreat2 k n s k2 n2 s2 b W true g h h1 h2)
  clear hT h1 h2
  go_enter Tryd.func8, Tryd.ntmps8
  go_wp2_with (first | (go_at_call 43; go_loud (with_reducible refine (AL.out _ (T0.out.on D0.out.bel)).mono ?_; rintro e wn ⟨rfl, hb⟩; have D1 := Lib.hid ((D0.out).on hb); clear hb; have u0 := (D1.out.blk _ (List.mem_cons_self)).2.cell 0 _ rfl; have uz0 := (D1.out.blk _ (List.mem_cons_self)).2.frozen 0; have u1 := (D1.out.blk _ (List.mem_cons_self)).2.cell 1 _ rfl; have uz1 := (D1.out.blk _ (List.mem_cons_self)).2.frozen 1; have u2 := (D1.out.blk _ (List.mem_cons_self)).2.cell 2 _ rfl; have uz2 := (D1.out.blk _ (List.mem_cons_self)).2.frozen 2; have q0 := (D1.out.blk _ (List.mem_cons_of_mem _ (List.mem_cons_self))).2.cell 0 _ rfl; have qz0 := (D1.out.blk _ (List.mem_cons_of_mem _ (List.mem_cons_self))).2.frozen 0; have q1 := (D1.out.blk _ (List.mem_cons_of_mem _ (List.mem_cons_self))).2.cell 1 _ rfl; have qz1 := (D1.out.blk _ (List.mem_cons_of_mem _ (List.mem_cons_self))).2.frozen 1; have q2 := (D1.out.blk _ (List.mem_cons_of_mem _ (List.mem_cons_self))).2.cell 2 _ rfl; have qz2 := (D1.out.blk _ (List.mem_cons_of_mem _ (List.mem_cons_self))).2.frozen 2)) | (go_at_call 44; go_loud (with_reducible refine (GR.out _ _ (Blk.new _ [.int .i64 k, .int .i64 n, .string s, .int .i64 k2, .int .i64 n2, .string s2] 32)).mono ?_; rintro e wn ⟨rfl, hb⟩; have D2 := Lib.hid ((D1.out.new 32 [.int .i64 k, .int .i64 n, .string s, .int .i64 k2, .int .i64 n2, .string s2]).on hb); clear hb; have u0 := (D2.out.blk _ (List.mem_cons_of_mem _ (List.mem_cons_self))).2.cell 0 _ rfl; have uz0 := (D2.out.blk _ (List.mem_cons_of_mem _ (List.mem_cons_self))).2.frozen 0; have u1 := (D2.out.blk _ (List.mem_cons_of_mem _ (List.mem_cons_self))).2.cell 1 _ rfl; have uz1 := (D2.out.blk _ (List.mem_cons_of_mem _ (List.mem_cons_self))).2.frozen 1; have u2 := (D2.out.blk _ (List.mem_cons_of_mem _ (List.mem_cons_self))).2.cell 2 _ rfl; have uz2 := (D2.out.blk _ (List.mem_cons_of_mem _ (List.mem_cons_self))).2.frozen 2; have q0 := (D2.out.blk _ (List.mem_cons_of_mem _ (List.mem_cons_of_mem _ (List.mem_cons_self)))).2.cell 0 _ rfl; have qz0 := (D2.out.blk _ (List.mem_cons_of_mem _ (List.mem_cons_of_mem _ (List.mem_cons_self)))).2.frozen 0; have q1 := (D2.out.blk _ (List.mem_cons_of_mem _ (List.mem_cons_of_mem _ (List.mem_cons_self)))).2.cell 1 _ rfl; have qz1 := (D2.out.blk _ (List.mem_cons_of_mem _ (List.mem_cons_of_mem _ (List.mem_cons_self)))).2.frozen 1; have q2 := (D2.out.blk _ (List.mem_cons_of_mem _ (List.mem_cons_of_mem _ (List.mem_cons_self)))).2.cell 2 _ rfl; have qz2 := (D2.out.blk _ (List.mem_cons_of_mem _ (List.mem_cons_of_mem _ (List.mem_cons_self)))).2.frozen 2)))
  go_ret
  exact ⟨rfl, D2.out.bel⟩
set_option maxHeartbeats 8000000 in
set_option maxRecDepth 20000 in
theorem orG2 (k n : Int) (s : ByteArray) (k2 n2 : Int) (s2 : ByteArray) (h1 : decide (10000 < (s.size : Int)) = false) (h2 : decide (10000 < (s2.size : Int)) = true) (w : World) (hT : Tab w) : Calls Tryd.prog 8 #[.agg #[.int .i64 k, .int .i64 n, .string s], .agg #[.int .i64 k2, .int .i64 n2, .string s2]] w fun e w' => e = .returned (.bool true) ∧ Below w.heap.size w w' := by
  have T0 := Lib.hid hT
  have D0 := Lib.hid (OD.start2 w 32 [.int .i64 k, .int .i64 n, .string s] [.int .i64 k2, .int .i64 n2, .string s2])
  have AL := Lib.hid (fun W hW => alive_calls true W hW rfl)
  have GR := Lib.hid (fun b W h => hGreat2 k n s k2 n2 s2 b W false true h h1 h2)
  clear hT h1 h2
  go_enter Tryd.func8, Tryd.ntmps8
  go_wp2_with (first | (go_at_call 43; go_loud (with_reducible refine (AL.out _ (T0.out.on D0.out.bel)).mono ?_; rintro e wn ⟨rfl, hb⟩; have D1 := Lib.hid ((D0.out).on hb); clear hb; have u0 := (D1.out.blk _ (List.mem_cons_self)).2.cell 0 _ rfl; have uz0 := (D1.out.blk _ (List.mem_cons_self)).2.frozen 0; have u1 := (D1.out.blk _ (List.mem_cons_self)).2.cell 1 _ rfl; have uz1 := (D1.out.blk _ (List.mem_cons_self)).2.frozen 1; have u2 := (D1.out.blk _ (List.mem_cons_self)).2.cell 2 _ rfl; have uz2 := (D1.out.blk _ (List.mem_cons_self)).2.frozen 2; have q0 := (D1.out.blk _ (List.mem_cons_of_mem _ (List.mem_cons_self))).2.cell 0 _ rfl; have qz0 := (D1.out.blk _ (List.mem_cons_of_mem _ (List.mem_cons_self))).2.frozen 0; have q1 := (D1.out.blk _ (List.mem_cons_of_mem _ (List.mem_cons_self))).2.cell 1 _ rfl; have qz1 := (D1.out.blk _ (List.mem_cons_of_mem _ (List.mem_cons_self))).2.frozen 1; have q2 := (D1.out.blk _ (List.mem_cons_of_mem _ (List.mem_cons_self))).2.cell 2 _ rfl; have qz2 := (D1.out.blk _ (List.mem_cons_of_mem _ (List.mem_cons_self))).2.frozen 2)) | (go_at_call 44; go_loud (with_reducible refine (GR.out _ _ (Blk.new _ [.int .i64 k, .int .i64 n, .string s, .int .i64 k2, .int .i64 n2, .string s2] 32)).mono ?_; rintro e wn ⟨rfl, hb⟩; have D2 := Lib.hid ((D1.out.new 32 [.int .i64 k, .int .i64 n, .string s, .int .i64 k2, .int .i64 n2, .string s2]).on hb); clear hb; have u0 := (D2.out.blk _ (List.mem_cons_of_mem _ (List.mem_cons_self))).2.cell 0 _ rfl; have uz0 := (D2.out.blk _ (List.mem_cons_of_mem _ (List.mem_cons_self))).2.frozen 0; have u1 := (D2.out.blk _ (List.mem_cons_of_mem _ (List.mem_cons_self))).2.cell 1 _ rfl; have uz1 := (D2.out.blk _ (List.mem_cons_of_mem _ (List.mem_cons_self))).2.frozen 1; have u2 := (D2.out.blk _ (List.mem_cons_of_mem _ (List.mem_cons_self))).2.cell 2 _ rfl; have uz2 := (D2.out.blk _ (List.mem_cons_of_mem _ (List.mem_cons_self))).2.frozen 2; have q0 := (D2.out.blk _ (List.mem_cons_of_mem _ (List.mem_cons_of_mem _ (List.mem_cons_self)))).2.cell 0 _ rfl; have qz0 := (D2.out.blk _ (List.mem_cons_of_mem _ (List.mem_cons_of_mem _ (List.mem_cons_self)))).2.frozen 0; have q1 := (D2.out.blk _ (List.mem_cons_of_mem _ (List.mem_cons_of_mem _ (List.mem_cons_self)))).2.cell 1 _ rfl; have qz1 := (D2.out.blk _ (List.mem_cons_of_mem _ (List.mem_cons_of_mem _ (List.mem_cons_self)))).2.frozen 1; have q2 := (D2.out.blk _ (List.mem_cons_of_mem _ (List.mem_cons_of_mem _ (List.mem_cons_self)))).2.cell 2 _ rfl; have qz2 := (D2.out.blk _ (List.mem_cons_of_mem _ (List.mem_cons_of_mem _ (List.mem_cons_self)))).2.frozen 2)))
  go_ret
  exact ⟨rfl, D2.out.bel⟩
set_option maxHeartbeats 8000000 in
set_option maxRecDepth 20000 in
theorem orN0 (k n : Int) (s : ByteArray) (k2 n2 : Int) (s2 : ByteArray) (h1 : decide (10000 < (s.size : Int)) = false) (h2 : decide (10000 < (s2.size : Int)) = false) (d14 : doF 14 k n s k2 n2 s2 0 = some (0, 0, ⟨#[]⟩, 18)) (d15 : doF 15 k n s k2 n2 s2 0 = some (0, 0, ⟨#[]⟩, 18)) (d16 : doF 16 k n s k2 n2 s2 0 = some (0, 0, ⟨#[]⟩, 18)) (d17 : doF 17 k n s k2 n2 s2 0 = some (0, 0, ⟨#[]⟩, 18)) (d12 : doF 12 k n s k2 n2 s2 0 = some (1, 0, ⟨#[]⟩, 0)) (w : World) (hT : Tab w) : Calls Tryd.prog 8 #[.agg #[.int .i64 k, .int .i64 n, .string s], .agg #[.int .i64 k2, .int .i64 n2, .string s2]] w fun e w' => e = .returned (.bool true) ∧ Below w.heap.size w w' := by
  have T0 := Lib.hid hT
  have D0 := Lib.hid (OD.start2 w 32 [.int .i64 k, .int .i64 n, .string s] [.int .i64 k2, .int .i64 n2, .string s2])
  have AL := Lib.hid (fun W hW => alive_calls true W hW rfl)
  have GR := Lib.hid (fun b W h => hGreat2 k n s k2 n2 s2 b W false false h h1 h2)
  have X14 := Lib.hid (fun W hW hA hB => hIs 14 w.heap.size (w.heap.size + 1) k n s k2 n2 s2 0 0 ⟨#[]⟩ 18 false W hW d14 rfl hA hB)
  have X15 := Lib.hid (fun W hW hA hB => hIs 15 w.heap.size (w.heap.size + 1) k n s k2 n2 s2 0 0 ⟨#[]⟩ 18 false W hW d15 rfl hA hB)
  have X16 := Lib.hid (fun W hW hA hB => hIs 16 w.heap.size (w.heap.size + 1) k n s k2 n2 s2 0 0 ⟨#[]⟩ 18 false W hW d16 rfl hA hB)
  have X17 := Lib.hid (fun W hW hA hB => hIs 17 w.heap.size (w.heap.size + 1) k n s k2 n2 s2 0 0 ⟨#[]⟩ 18 false W hW d17 rfl hA hB)
  have X12 := Lib.hid (fun W hW hA hB => hIs 12 w.heap.size (w.heap.size + 1) k n s k2 n2 s2 1 0 ⟨#[]⟩ 0 false W hW d12 rfl hA hB)
  clear hT h1 h2 d14 d15 d16 d17 d12
  go_enter Tryd.func8, Tryd.ntmps8
  go_wp2_with (first | (go_at_call 43; go_loud (with_reducible refine (AL.out _ (T0.out.on D0.out.bel)).mono ?_; rintro e wn ⟨rfl, hb⟩; have D1 := Lib.hid ((D0.out).on hb); clear hb; have u0 := (D1.out.blk _ (List.mem_cons_self)).2.cell 0 _ rfl; have uz0 := (D1.out.blk _ (List.mem_cons_self)).2.frozen 0; have u1 := (D1.out.blk _ (List.mem_cons_self)).2.cell 1 _ rfl; have uz1 := (D1.out.blk _ (List.mem_cons_self)).2.frozen 1; have u2 := (D1.out.blk _ (List.mem_cons_self)).2.cell 2 _ rfl; have uz2 := (D1.out.blk _ (List.mem_cons_self)).2.frozen 2; have q0 := (D1.out.blk _ (List.mem_cons_of_mem _ (List.mem_cons_self))).2.cell 0 _ rfl; have qz0 := (D1.out.blk _ (List.mem_cons_of_mem _ (List.mem_cons_self))).2.frozen 0; have q1 := (D1.out.blk _ (List.mem_cons_of_mem _ (List.mem_cons_self))).2.cell 1 _ rfl; have qz1 := (D1.out.blk _ (List.mem_cons_of_mem _ (List.mem_cons_self))).2.frozen 1; have q2 := (D1.out.blk _ (List.mem_cons_of_mem _ (List.mem_cons_self))).2.cell 2 _ rfl; have qz2 := (D1.out.blk _ (List.mem_cons_of_mem _ (List.mem_cons_self))).2.frozen 2)) | (go_at_call 44; go_loud (with_reducible refine (GR.out _ _ (Blk.new _ [.int .i64 k, .int .i64 n, .string s, .int .i64 k2, .int .i64 n2, .string s2] 32)).mono ?_; rintro e wn ⟨rfl, hb⟩; have D2 := Lib.hid ((D1.out.new 32 [.int .i64 k, .int .i64 n, .string s, .int .i64 k2, .int .i64 n2, .string s2]).on hb); clear hb; have u0 := (D2.out.blk _ (List.mem_cons_of_mem _ (List.mem_cons_self))).2.cell 0 _ rfl; have uz0 := (D2.out.blk _ (List.mem_cons_of_mem _ (List.mem_cons_self))).2.frozen 0; have u1 := (D2.out.blk _ (List.mem_cons_of_mem _ (List.mem_cons_self))).2.cell 1 _ rfl; have uz1 := (D2.out.blk _ (List.mem_cons_of_mem _ (List.mem_cons_self))).2.frozen 1; have u2 := (D2.out.blk _ (List.mem_cons_of_mem _ (List.mem_cons_self))).2.cell 2 _ rfl; have uz2 := (D2.out.blk _ (List.mem_cons_of_mem _ (List.mem_cons_self))).2.frozen 2; have q0 := (D2.out.blk _ (List.mem_cons_of_mem _ (List.mem_cons_of_mem _ (List.mem_cons_self)))).2.cell 0 _ rfl; have qz0 := (D2.out.blk _ (List.mem_cons_of_mem _ (List.mem_cons_of_mem _ (List.mem_cons_self)))).2.frozen 0; have q1 := (D2.out.blk _ (List.mem_cons_of_mem _ (List.mem_cons_of_mem _ (List.mem_cons_self)))).2.cell 1 _ rfl; have qz1 := (D2.out.blk _ (List.mem_cons_of_mem _ (List.mem_cons_of_mem _ (List.mem_cons_self)))).2.frozen 1; have q2 := (D2.out.blk _ (List.mem_cons_of_mem _ (List.mem_cons_of_mem _ (List.mem_cons_self)))).2.cell 2 _ rfl; have qz2 := (D2.out.blk _ (List.mem_cons_of_mem _ (List.mem_cons_of_mem _ (List.mem_cons_self)))).2.frozen 2)) | (go_at_call 45; (with_reducible refine (X14.out _ (T0.out.on D2.out.bel) (D2.out.blk _ (List.mem_cons_of_mem _ (List.mem_cons_of_mem _ (List.mem_cons_self)))).2 (D2.out.blk _ (List.mem_cons_of_mem _ (List.mem_cons_self))).2).mono ?_); rintro e wn ⟨rfl, hb⟩; have D3 := Lib.hid ((D2.out).on hb); clear hb) | (go_at_call 45; (with_reducible refine (X15.out _ (T0.out.on D3.out.bel) (D3.out.blk _ (List.mem_cons_of_mem _ (List.mem_cons_of_mem _ (List.mem_cons_self)))).2 (D3.out.blk _ (List.mem_cons_of_mem _ (List.mem_cons_self))).2).mono ?_); rintro e wn ⟨rfl, hb⟩; have D4 := Lib.hid ((D3.out).on hb); clear hb) | (go_at_call 45; (with_reducible refine (X16.out _ (T0.out.on D4.out.bel) (D4.out.blk _ (List.mem_cons_of_mem _ (List.mem_cons_of_mem _ (List.mem_cons_self)))).2 (D4.out.blk _ (List.mem_cons_of_mem _ (List.mem_cons_self))).2).mono ?_); rintro e wn ⟨rfl, hb⟩; have D5 := Lib.hid ((D4.out).on hb); clear hb) | (go_at_call 45; (with_reducible refine (X17.out _ (T0.out.on D5.out.bel) (D5.out.blk _ (List.mem_cons_of_mem _ (List.mem_cons_of_mem _ (List.mem_cons_self)))).2 (D5.out.blk _ (List.mem_cons_of_mem _ (List.mem_cons_self))).2).mono ?_); rintro e wn ⟨rfl, hb⟩; have D6 := Lib.hid ((D5.out).on hb); clear hb) | (go_at_call 45; (with_reducible refine (X12.out _ (T0.out.on D6.out.bel) (D6.out.blk _ (List.mem_cons_of_mem _ (List.mem_cons_of_mem _ (List.mem_cons_self)))).2 (D6.out.blk _ (List.mem_cons_of_mem _ (List.mem_cons_self))).2).mono ?_); rintro e wn ⟨rfl, hb⟩; have D7 := Lib.hid ((D6.out).on hb); clear hb))
  go_ret
  exact ⟨rfl, D7.out.bel⟩
set_option maxHeartbeats 8000000 in
set_option maxRecDepth 20000 in
theorem orN1 (k n : Int) (s : ByteArray) (k2 n2 : Int) (s2 : ByteArray) (h1 : decide (10000 < (s.size : Int)) = false) (h2 : decide (10000 < (s2.size : Int)) = false) (d14 : doF 14 k n s k2 n2 s2 0 = some (0, 0, ⟨#[]⟩, 18)) (d15 : doF 15 k n s k2 n2 s2 0 = some (0, 0, ⟨#[]⟩, 18)) (d16 : doF 16 k n s k2 n2 s2 0 = some (0, 0, ⟨#[]⟩, 18)) (d17 : doF 17 k n s k2 n2 s2 0 = some (0, 0, ⟨#[]⟩, 18)) (d12 : doF 12 k n s k2 n2 s2 0 = some (1, 1, ⟨#[]⟩, 0)) (w : World) (hT : Tab w) : Calls Tryd.prog 8 #[.agg #[.int .i64 k, .int .i64 n, .string s], .agg #[.int .i64 k2, .int .i64 n2, .string s2]] w fun e w' => e = .returned (.bool true) ∧ Below w.heap.size w w' := by
  have T0 := Lib.hid hT
  have D0 := Lib.hid (OD.start2 w 32 [.int .i64 k, .int .i64 n, .string s] [.int .i64 k2, .int .i64 n2, .string s2])
  have AL := Lib.hid (fun W hW => alive_calls true W hW rfl)
  have GR := Lib.hid (fun b W h => hGreat2 k n s k2 n2 s2 b W false false h h1 h2)
  have X14 := Lib.hid (fun W hW hA hB => hIs 14 w.heap.size (w.heap.size + 1) k n s k2 n2 s2 0 0 ⟨#[]⟩ 18 false W hW d14 rfl hA hB)
  have X15 := Lib.hid (fun W hW hA hB => hIs 15 w.heap.size (w.heap.size + 1) k n s k2 n2 s2 0 0 ⟨#[]⟩ 18 false W hW d15 rfl hA hB)
  have X16 := Lib.hid (fun W hW hA hB => hIs 16 w.heap.size (w.heap.size + 1) k n s k2 n2 s2 0 0 ⟨#[]⟩ 18 false W hW d16 rfl hA hB)
  have X17 := Lib.hid (fun W hW hA hB => hIs 17 w.heap.size (w.heap.size + 1) k n s k2 n2 s2 0 0 ⟨#[]⟩ 18 false W hW d17 rfl hA hB)
  have X12 := Lib.hid (fun W hW hA hB => hIs 12 w.heap.size (w.heap.size + 1) k n s k2 n2 s2 1 1 ⟨#[]⟩ 0 true W hW d12 rfl hA hB)
  clear hT h1 h2 d14 d15 d16 d17 d12
  go_enter Tryd.func8, Tryd.ntmps8
  go_wp2_with (first | (go_at_call 43; go_loud (with_reducible refine (AL.out _ (T0.out.on D0.out.bel)).mono ?_; rintro e wn ⟨rfl, hb⟩; have D1 := Lib.hid ((D0.out).on hb); clear hb; have u0 := (D1.out.blk _ (List.mem_cons_self)).2.cell 0 _ rfl; have uz0 := (D1.out.blk _ (List.mem_cons_self)).2.frozen 0; have u1 := (D1.out.blk _ (List.mem_cons_self)).2.cell 1 _ rfl; have uz1 := (D1.out.blk _ (List.mem_cons_self)).2.frozen 1; have u2 := (D1.out.blk _ (List.mem_cons_self)).2.cell 2 _ rfl; have uz2 := (D1.out.blk _ (List.mem_cons_self)).2.frozen 2; have q0 := (D1.out.blk _ (List.mem_cons_of_mem _ (List.mem_cons_self))).2.cell 0 _ rfl; have qz0 := (D1.out.blk _ (List.mem_cons_of_mem _ (List.mem_cons_self))).2.frozen 0; have q1 := (D1.out.blk _ (List.mem_cons_of_mem _ (List.mem_cons_self))).2.cell 1 _ rfl; have qz1 := (D1.out.blk _ (List.mem_cons_of_mem _ (List.mem_cons_self))).2.frozen 1; have q2 := (D1.out.blk _ (List.mem_cons_of_mem _ (List.mem_cons_self))).2.cell 2 _ rfl; have qz2 := (D1.out.blk _ (List.mem_cons_of_mem _ (List.mem_cons_self))).2.frozen 2)) | (go_at_call 44; go_loud (with_reducible refine (GR.out _ _ (Blk.new _ [.int .i64 k, .int .i64 n, .string s, .int .i64 k2, .int .i64 n2, .string s2] 32)).mono ?_; rintro e wn ⟨rfl, hb⟩; have D2 := Lib.hid ((D1.out.new 32 [.int .i64 k, .int .i64 n, .string s, .int .i64 k2, .int .i64 n2, .string s2]).on hb); clear hb; have u0 := (D2.out.blk _ (List.mem_cons_of_mem _ (List.mem_cons_self))).2.cell 0 _ rfl; have uz0 := (D2.out.blk _ (List.mem_cons_of_mem _ (List.mem_cons_self))).2.frozen 0; have u1 := (D2.out.blk _ (List.mem_cons_of_mem _ (List.mem_cons_self))).2.cell 1 _ rfl; have uz1 := (D2.out.blk _ (List.mem_cons_of_mem _ (List.mem_cons_self))).2.frozen 1; have u2 := (D2.out.blk _ (List.mem_cons_of_mem _ (List.mem_cons_self))).2.cell 2 _ rfl; have uz2 := (D2.out.blk _ (List.mem_cons_of_mem _ (List.mem_cons_self))).2.frozen 2; have q0 := (D2.out.blk _ (List.mem_cons_of_mem _ (List.mem_cons_of_mem _ (List.mem_cons_self)))).2.cell 0 _ rfl; have qz0 := (D2.out.blk _ (List.mem_cons_of_mem _ (List.mem_cons_of_mem _ (List.mem_cons_self)))).2.frozen 0; have q1 := (D2.out.blk _ (List.mem_cons_of_mem _ (List.mem_cons_of_mem _ (List.mem_cons_self)))).2.cell 1 _ rfl; have qz1 := (D2.out.blk _ (List.mem_cons_of_mem _ (List.mem_cons_of_mem _ (List.mem_cons_self)))).2.frozen 1; have q2 := (D2.out.blk _ (List.mem_cons_of_mem _ (List.mem_cons_of_mem _ (List.mem_cons_self)))).2.cell 2 _ rfl; have qz2 := (D2.out.blk _ (List.mem_cons_of_mem _ (List.mem_cons_of_mem _ (List.mem_cons_self)))).2.frozen 2)) | (go_at_call 45; (with_reducible refine (X14.out _ (T0.out.on D2.out.bel) (D2.out.blk _ (List.mem_cons_of_mem _ (List.mem_cons_of_mem _ (List.mem_cons_self)))).2 (D2.out.blk _ (List.mem_cons_of_mem _ (List.mem_cons_self))).2).mono ?_); rintro e wn ⟨rfl, hb⟩; have D3 := Lib.hid ((D2.out).on hb); clear hb) | (go_at_call 45; (with_reducible refine (X15.out _ (T0.out.on D3.out.bel) (D3.out.blk _ (List.mem_cons_of_mem _ (List.mem_cons_of_mem _ (List.mem_cons_self)))).2 (D3.out.blk _ (List.mem_cons_of_mem _ (List.mem_cons_self))).2).mono ?_); rintro e wn ⟨rfl, hb⟩; have D4 := Lib.hid ((D3.out).on hb); clear hb) | (go_at_call 45; (with_reducible refine (X16.out _ (T0.out.on D4.out.bel) (D4.out.blk _ (List.mem_cons_of_mem _ (List.mem_cons_of_mem _ (List.mem_cons_self)))).2 (D4.out.blk _ (List.mem_cons_of_mem _ (List.mem_cons_self))).2).mono ?_); rintro e wn ⟨rfl, hb⟩; have D5 := Lib.hid ((D4.out).on hb); clear hb) | (go_at_call 45; (with_reducible refine (X17.out _ (T0.out.on D5.out.bel) (D5.out.blk _ (List.mem_cons_of_mem _ (List.mem_cons_of_mem _ (List.mem_cons_self)))).2 (D5.out.blk _ (List.mem_cons_of_mem _ (List.mem_cons_self))).2).mono ?_); rintro e wn ⟨rfl, hb⟩; have D6 := Lib.hid ((D5.out).on hb); clear hb) | (go_at_call 45; (with_reducible refine (X12.out _ (T0.out.on D6.out.bel) (D6.out.blk _ (List.mem_cons_of_mem _ (List.mem_cons_of_mem _ (List.mem_cons_self)))).2 (D6.out.blk _ (List.mem_cons_of_mem _ (List.mem_cons_self))).2).mono ?_); rintro e wn ⟨rfl, hb⟩; have D7 := Lib.hid ((D6.out).on hb); clear hb))
  go_ret
  exact ⟨rfl, D7.out.bel⟩
set_option maxHeartbeats 8000000 in
set_option maxRecDepth 20000 in
theorem orL (k n : Int) (s : ByteArray) (k2 n2 : Int) (s2 : ByteArray) (h1 : decide (10000 < (s.size : Int)) = false) (h2 : decide (10000 < (s2.size : Int)) = false) (d14 : doF 14 k n s k2 n2 s2 0 = some (1, 1, ⟨#[]⟩, 0)) (d15 : doF 15 k n s k2 n2 s2 0 = some (1, 1, ⟨#[]⟩, 0)) (d16 : doF 16 k n s k2 n2 s2 0 = some (1, 0, ⟨#[]⟩, 0)) (d17 : doF 17 k n s k2 n2 s2 0 = some (1, 0, ⟨#[]⟩, 0)) (d12 : doF 12 k n s k2 n2 s2 0 = some (1, 0, ⟨#[]⟩, 0)) (w : World) (hT : Tab w) : Calls Tryd.prog 8 #[.agg #[.int .i64 k, .int .i64 n, .string s], .agg #[.int .i64 k2, .int .i64 n2, .string s2]] w fun e w' => e = .returned (.bool true) ∧ Below w.heap.size w w' := by
  have T0 := Lib.hid hT
  have D0 := Lib.hid (OD.start2 w 32 [.int .i64 k, .int .i64 n, .string s] [.int .i64 k2, .int .i64 n2, .string s2])
  have AL := Lib.hid (fun W hW => alive_calls true W hW rfl)
  have GR := Lib.hid (fun b W h => hGreat2 k n s k2 n2 s2 b W false false h h1 h2)
  have ix0 : ∀ W, (Instr.index 49 (.agg #[.bool true, .bool false, .bool false]) (.int .i64 0)).run Tryd.prog W = .ok (.bool true) W := fun W => by kernel_rfl
  have ix1 : ∀ W, (Instr.index 49 (.agg #[.bool true, .bool false, .bool false]) (.int .i64 1)).run Tryd.prog W = .ok (.bool false) W := fun W => by kernel_rfl
  have ix2 : ∀ W, (Instr.index 49 (.agg #[.bool true, .bool false, .bool false]) (.int .i64 2)).run Tryd.prog W = .ok (.bool false) W := fun W => by kernel_rfl
  have X14 := Lib.hid (fun W hW hA hB => hIs 14 w.heap.size (w.heap.size + 1) k n s k2 n2 s2 1 1 ⟨#[]⟩ 0 true W hW d14 rfl hA hB)
  have X15 := Lib.hid (fun W hW hA hB => hIs 15 w.heap.size (w.heap.size + 1) k n s k2 n2 s2 1 1 ⟨#[]⟩ 0 true W hW d15 rfl hA hB)
  have X16 := Lib.hid (fun W hW hA hB => hIs 16 w.heap.size (w.heap.size + 1) k n s k2 n2 s2 1 0 ⟨#[]⟩ 0 false W hW d16 rfl hA hB)
  have X17 := Lib.hid (fun W hW hA hB => hIs 17 w.heap.size (w.heap.size + 1) k n s k2 n2 s2 1 0 ⟨#[]⟩ 0 false W hW d17 rfl hA hB)
  have X12 := Lib.hid (fun W hW hA hB => hIs 12 w.heap.size (w.heap.size + 1) k n s k2 n2 s2 1 0 ⟨#[]⟩ 0 false W hW d12 rfl hA hB)
  clear hT h1 h2 d14 d15 d16 d17 d12
  go_enter Tryd.func8, Tryd.ntmps8
  go_wp2_with (first | (go_at_call 43; go_loud (with_reducible refine (AL.out _ (T0.out.on D0.out.bel)).mono ?_; rintro e wn ⟨rfl, hb⟩; have D1 := Lib.hid ((D0.out).on hb); clear hb; have u0 := (D1.out.blk _ (List.mem_cons_self)).2.cell 0 _ rfl; have uz0 := (D1.out.blk _ (List.mem_cons_self)).2.frozen 0; have u1 := (D1.out.blk _ (List.mem_cons_self)).2.cell 1 _ rfl; have uz1 := (D1.out.blk _ (List.mem_cons_self)).2.frozen 1; have u2 := (D1.out.blk _ (List.mem_cons_self)).2.cell 2 _ rfl; have uz2 := (D1.out.blk _ (List.mem_cons_self)).2.frozen 2; have q0 := (D1.out.blk _ (List.mem_cons_of_mem _ (List.mem_cons_self))).2.cell 0 _ rfl; have qz0 := (D1.out.blk _ (List.mem_cons_of_mem _ (List.mem_cons_self))).2.frozen 0; have q1 := (D1.out.blk _ (List.mem_cons_of_mem _ (List.mem_cons_self))).2.cell 1 _ rfl; have qz1 := (D1.out.blk _ (List.mem_cons_of_mem _ (List.mem_cons_self))).2.frozen 1; have q2 := (D1.out.blk _ (List.mem_cons_of_mem _ (List.mem_cons_self))).2.cell 2 _ rfl; have qz2 := (D1.out.blk _ (List.mem_cons_of_mem _ (List.mem_cons_self))).2.frozen 2)) | (go_at_call 44; go_loud (with_reducible refine (GR.out _ _ (Blk.new _ [.int .i64 k, .int .i64 n, .string s, .int .i64 k2, .int .i64 n2, .string s2] 32)).mono ?_; rintro e wn ⟨rfl, hb⟩; have D2 := Lib.hid ((D1.out.new 32 [.int .i64 k, .int .i64 n, .string s, .int .i64 k2, .int .i64 n2, .string s2]).on hb); clear hb; have u0 := (D2.out.blk _ (List.mem_cons_of_mem _ (List.mem_cons_self))).2.cell 0 _ rfl; have uz0 := (D2.out.blk _ (List.mem_cons_of_mem _ (List.mem_cons_self))).2.frozen 0; have u1 := (D2.out.blk _ (List.mem_cons_of_mem _ (List.mem_cons_self))).2.cell 1 _ rfl; have uz1 := (D2.out.blk _ (List.mem_cons_of_mem _ (List.mem_cons_self))).2.frozen 1; have u2 := (D2.out.blk _ (List.mem_cons_of_mem _ (List.mem_cons_self))).2.cell 2 _ rfl; have uz2 := (D2.out.blk _ (List.mem_cons_of_mem _ (List.mem_cons_self))).2.frozen 2; have q0 := (D2.out.blk _ (List.mem_cons_of_mem _ (List.mem_cons_of_mem _ (List.mem_cons_self)))).2.cell 0 _ rfl; have qz0 := (D2.out.blk _ (List.mem_cons_of_mem _ (List.mem_cons_of_mem _ (List.mem_cons_self)))).2.frozen 0; have q1 := (D2.out.blk _ (List.mem_cons_of_mem _ (List.mem_cons_of_mem _ (List.mem_cons_self)))).2.cell 1 _ rfl; have qz1 := (D2.out.blk _ (List.mem_cons_of_mem _ (List.mem_cons_of_mem _ (List.mem_cons_self)))).2.frozen 1; have q2 := (D2.out.blk _ (List.mem_cons_of_mem _ (List.mem_cons_of_mem _ (List.mem_cons_self)))).2.cell 2 _ rfl; have qz2 := (D2.out.blk _ (List.mem_cons_of_mem _ (List.mem_cons_of_mem _ (List.mem_cons_self)))).2.frozen 2)) | (go_at_call 45; (with_reducible refine (X14.out _ (T0.out.on D2.out.bel) (D2.out.blk _ (List.mem_cons_of_mem _ (List.mem_cons_of_mem _ (List.mem_cons_self)))).2 (D2.out.blk _ (List.mem_cons_of_mem _ (List.mem_cons_self))).2).mono ?_); rintro e wn ⟨rfl, hb⟩; have D3 := Lib.hid ((D2.out).on hb); clear hb) | (go_at_call 45; (with_reducible refine (X15.out _ (T0.out.on D3.out.bel) (D3.out.blk _ (List.mem_cons_of_mem _ (List.mem_cons_of_mem _ (List.mem_cons_self)))).2 (D3.out.blk _ (List.mem_cons_of_mem _ (List.mem_cons_self))).2).mono ?_); rintro e wn ⟨rfl, hb⟩; have D4 := Lib.hid ((D3.out).on hb); clear hb) | (go_at_call 45; (with_reducible refine (X16.out _ (T0.out.on D4.out.bel) (D4.out.blk _ (List.mem_cons_of_mem _ (List.mem_cons_of_mem _ (List.mem_cons_self)))).2 (D4.out.blk _ (List.mem_cons_of_mem _ (List.mem_cons_self))).2).mono ?_); rintro e wn ⟨rfl, hb⟩; have D5 := Lib.hid ((D4.out).on hb); clear hb) | (go_at_call 45; (with_reducible refine (X17.out _ (T0.out.on D5.out.bel) (D5.out.blk _ (List.mem_cons_of_mem _ (List.mem_cons_of_mem _ (List.mem_cons_self)))).2 (D5.out.blk _ (List.mem_cons_of_mem _ (List.mem_cons_self))).2).mono ?_); rintro e wn ⟨rfl, hb⟩; have D6 := Lib.hid ((D5.out).on hb); clear hb) | (go_at_call 45; (with_reducible refine (X12.out _ (T0.out.on D6.out.bel) (D6.out.blk _ (List.mem_cons_of_mem _ (List.mem_cons_of_mem _ (List.mem_cons_self)))).2 (D6.out.blk _ (List.mem_cons_of_mem _ (List.mem_cons_self))).2).mono ?_); rintro e wn ⟨rfl, hb⟩; have D7 := Lib.hid ((D6.out).on hb); clear hb))
  go_loop [16, 96] (fun nv iv => ∃ j : Nat, j ≤ 3 ∧ iv = .int .i64 j ∧ nv = .int .i64 (([0, 1, 1, 1] : List Int).getD j 0)) (fun _ iv => 3 - (intOf iv).toNat)
  case atStart => exact ⟨0, by omega, rfl, rfl⟩
  case round =>
    obtain ⟨j, hj, rfl, rfl⟩ := hrel
    by_cases e0 : j = 0
    · subst e0
      clear hj
      go_wp2
      go_round
      case rel => exact ⟨1, by omega, by first | rfl | go_num, by first | rfl | go_num⟩
      case measure => simp [intOf]
    by_cases e1 : j = 1
    · subst e1
      clear hj
      go_wp2
      go_round
      case rel => exact ⟨2, by omega, by first | rfl | go_num, by first | rfl | go_num⟩
      case measure => simp [intOf]
    by_cases e2 : j = 2
    · subst e2
      clear hj
      go_wp2
      go_round
      case rel => exact ⟨3, by omega, by first | rfl | go_num, by first | rfl | go_num⟩
      case measure => simp [intOf]
    obtain rfl : j = 3 := by omega
    go_wp2
    go_ret
    exact ⟨rfl, D7.out.bel⟩
set_option maxHeartbeats 8000000 in
set_option maxRecDepth 20000 in
theorem orM (k n : Int) (s : ByteArray) (k2 n2 : Int) (s2 : ByteArray) (h1 : decide (10000 < (s.size : Int)) = false) (h2 : decide (10000 < (s2.size : Int)) = false) (d14 : doF 14 k n s k2 n2 s2 0 = some (1, 0, ⟨#[]⟩, 0)) (d15 : doF 15 k n s k2 n2 s2 0 = some (1, 0, ⟨#[]⟩, 0)) (d16 : doF 16 k n s k2 n2 s2 0 = some (1, 1, ⟨#[]⟩, 0)) (d17 : doF 17 k n s k2 n2 s2 0 = some (1, 1, ⟨#[]⟩, 0)) (d12 : doF 12 k n s k2 n2 s2 0 = some (1, 0, ⟨#[]⟩, 0)) (w : World) (hT : Tab w) : Calls Tryd.prog 8 #[.agg #[.int .i64 k, .int .i64 n, .string s], .agg #[.int .i64 k2, .int .i64 n2, .string s2]] w fun e w' => e = .returned (.bool true) ∧ Below w.heap.size w w' := by
  have T0 := Lib.hid hT
  have D0 := Lib.hid (OD.start2 w 32 [.int .i64 k, .int .i64 n, .string s] [.int .i64 k2, .int .i64 n2, .string s2])
  have AL := Lib.hid (fun W hW => alive_calls true W hW rfl)
  have GR := Lib.hid (fun b W h => hGreat2 k n s k2 n2 s2 b W false false h h1 h2)
  have ix0 : ∀ W, (Instr.index 49 (.agg #[.bool false, .bool false, .bool true]) (.int .i64 0)).run Tryd.prog W = .ok (.bool false) W := fun W => by kernel_rfl
  have ix1 : ∀ W, (Instr.index 49 (.agg #[.bool false, .bool false, .bool true]) (.int .i64 1)).run Tryd.prog W = .ok (.bool false) W := fun W => by kernel_rfl
  have ix2 : ∀ W, (Instr.index 49 (.agg #[.bool false, .bool false, .bool true]) (.int .i64 2)).run Tryd.prog W = .ok (.bool true) W := fun W => by kernel_rfl
  have X14 := Lib.hid (fun W hW hA hB => hIs 14 w.heap.size (w.heap.size + 1) k n s k2 n2 s2 1 0 ⟨#[]⟩ 0 false W hW d14 rfl hA hB)
  have X15 := Lib.hid (fun W hW hA hB => hIs 15 w.heap.size (w.heap.size + 1) k n s k2 n2 s2 1 0 ⟨#[]⟩ 0 false W hW d15 rfl hA hB)
  have X16 := Lib.hid (fun W hW hA hB => hIs 16 w.heap.size (w.heap.size + 1) k n s k2 n2 s2 1 1 ⟨#[]⟩ 0 true W hW d16 rfl hA hB)
  have X17 := Lib.hid (fun W hW hA hB => hIs 17 w.heap.size (w.heap.size + 1) k n s k2 n2 s2 1 1 ⟨#[]⟩ 0 true W hW d17 rfl hA hB)
  have X12 := Lib.hid (fun W hW hA hB => hIs 12 w.heap.size (w.heap.size + 1) k n s k2 n2 s2 1 0 ⟨#[]⟩ 0 false W hW d12 rfl hA hB)
  clear hT h1 h2 d14 d15 d16 d17 d12
  go_enter Tryd.func8, Tryd.ntmps8
  go_wp2_with (first | (go_at_call 43; go_loud (with_reducible refine (AL.out _ (T0.out.on D0.out.bel)).mono ?_; rintro e wn ⟨rfl, hb⟩; have D1 := Lib.hid ((D0.out).on hb); clear hb; have u0 := (D1.out.blk _ (List.mem_cons_self)).2.cell 0 _ rfl; have uz0 := (D1.out.blk _ (List.mem_cons_self)).2.frozen 0; have u1 := (D1.out.blk _ (List.mem_cons_self)).2.cell 1 _ rfl; have uz1 := (D1.out.blk _ (List.mem_cons_self)).2.frozen 1; have u2 := (D1.out.blk _ (List.mem_cons_self)).2.cell 2 _ rfl; have uz2 := (D1.out.blk _ (List.mem_cons_self)).2.frozen 2; have q0 := (D1.out.blk _ (List.mem_cons_of_mem _ (List.mem_cons_self))).2.cell 0 _ rfl; have qz0 := (D1.out.blk _ (List.mem_cons_of_mem _ (List.mem_cons_self))).2.frozen 0; have q1 := (D1.out.blk _ (List.mem_cons_of_mem _ (List.mem_cons_self))).2.cell 1 _ rfl; have qz1 := (D1.out.blk _ (List.mem_cons_of_mem _ (List.mem_cons_self))).2.frozen 1; have q2 := (D1.out.blk _ (List.mem_cons_of_mem _ (List.mem_cons_self))).2.cell 2 _ rfl; have qz2 := (D1.out.blk _ (List.mem_cons_of_mem _ (List.mem_cons_self))).2.frozen 2)) | (go_at_call 44; go_loud (with_reducible refine (GR.out _ _ (Blk.new _ [.int .i64 k, .int .i64 n, .string s, .int .i64 k2, .int .i64 n2, .string s2] 32)).mono ?_; rintro e wn ⟨rfl, hb⟩; have D2 := Lib.hid ((D1.out.new 32 [.int .i64 k, .int .i64 n, .string s, .int .i64 k2, .int .i64 n2, .string s2]).on hb); clear hb; have u0 := (D2.out.blk _ (List.mem_cons_of_mem _ (List.mem_cons_self))).2.cell 0 _ rfl; have uz0 := (D2.out.blk _ (List.mem_cons_of_mem _ (List.mem_cons_self))).2.frozen 0; have u1 := (D2.out.blk _ (List.mem_cons_of_mem _ (List.mem_cons_self))).2.cell 1 _ rfl; have uz1 := (D2.out.blk _ (List.mem_cons_of_mem _ (List.mem_cons_self))).2.frozen 1; have u2 := (D2.out.blk _ (List.mem_cons_of_mem _ (List.mem_cons_self))).2.cell 2 _ rfl; have uz2 := (D2.out.blk _ (List.mem_cons_of_mem _ (List.mem_cons_self))).2.frozen 2; have q0 := (D2.out.blk _ (List.mem_cons_of_mem _ (List.mem_cons_of_mem _ (List.mem_cons_self)))).2.cell 0 _ rfl; have qz0 := (D2.out.blk _ (List.mem_cons_of_mem _ (List.mem_cons_of_mem _ (List.mem_cons_self)))).2.frozen 0; have q1 := (D2.out.blk _ (List.mem_cons_of_mem _ (List.mem_cons_of_mem _ (List.mem_cons_self)))).2.cell 1 _ rfl; have qz1 := (D2.out.blk _ (List.mem_cons_of_mem _ (List.mem_cons_of_mem _ (List.mem_cons_self)))).2.frozen 1; have q2 := (D2.out.blk _ (List.mem_cons_of_mem _ (List.mem_cons_of_mem _ (List.mem_cons_self)))).2.cell 2 _ rfl; have qz2 := (D2.out.blk _ (List.mem_cons_of_mem _ (List.mem_cons_of_mem _ (List.mem_cons_self)))).2.frozen 2)) | (go_at_call 45; (with_reducible refine (X14.out _ (T0.out.on D2.out.bel) (D2.out.blk _ (List.mem_cons_of_mem _ (List.mem_cons_of_mem _ (List.mem_cons_self)))).2 (D2.out.blk _ (List.mem_cons_of_mem _ (List.mem_cons_self))).2).mono ?_); rintro e wn ⟨rfl, hb⟩; have D3 := Lib.hid ((D2.out).on hb); clear hb) | (go_at_call 45; (with_reducible refine (X15.out _ (T0.out.on D3.out.bel) (D3.out.blk _ (List.mem_cons_of_mem _ (List.mem_cons_of_mem _ (List.mem_cons_self)))).2 (D3.out.blk _ (List.mem_cons_of_mem _ (List.mem_cons_self))).2).mono ?_); rintro e wn ⟨rfl, hb⟩; have D4 := Lib.hid ((D3.out).on hb); clear hb) | (go_at_call 45; (with_reducible refine (X16.out _ (T0.out.on D4.out.bel) (D4.out.blk _ (List.mem_cons_of_mem _ (List.mem_cons_of_mem _ (List.mem_cons_self)))).2 (D4.out.blk _ (List.mem_cons_of_mem _ (List.mem_cons_self))).2).mono ?_); rintro e wn ⟨rfl, hb⟩; have D5 := Lib.hid ((D4.out).on hb); clear hb) | (go_at_call 45; (with_reducible refine (X17.out _ (T0.out.on D5.out.bel) (D5.out.blk _ (List.mem_cons_of_mem _ (List.mem_cons_of_mem _ (List.mem_cons_self)))).2 (D5.out.blk _ (List.mem_cons_of_mem _ (List.mem_cons_self))).2).mono ?_); rintro e wn ⟨rfl, hb⟩; have D6 := Lib.hid ((D5.out).on hb); clear hb) | (go_at_call 45; (with_reducible refine (X12.out _ (T0.out.on D6.out.bel) (D6.out.blk _ (List.mem_cons_of_mem _ (List.mem_cons_of_mem _ (List.mem_cons_self)))).2 (D6.out.blk _ (List.mem_cons_of_mem _ (List.mem_cons_self))).2).mono ?_); rintro e wn ⟨rfl, hb⟩; have D7 := Lib.hid ((D6.out).on hb); clear hb))
  go_loop [16, 96] (fun nv iv => ∃ j : Nat, j ≤ 3 ∧ iv = .int .i64 j ∧ nv = .int .i64 (([0, 0, 0, 1] : List Int).getD j 0)) (fun _ iv => 3 - (intOf iv).toNat)
  case atStart => exact ⟨0, by omega, rfl, rfl⟩
  case round =>
    obtain ⟨j, hj, rfl, rfl⟩ := hrel
    by_cases e0 : j = 0
    · subst e0
      clear hj
      go_wp2
      go_round
      case rel => exact ⟨1, by omega, by first | rfl | go_num, by first | rfl | go_num⟩
      case measure => simp [intOf]
    by_cases e1 : j = 1
    · subst e1
      clear hj
      go_wp2
      go_round
      case rel => exact ⟨2, by omega, by first | rfl | go_num, by first | rfl | go_num⟩
      case measure => simp [intOf]
    by_cases e2 : j = 2
    · subst e2
      clear hj
      go_wp2
      go_round
      case rel => exact ⟨3, by omega, by first | rfl | go_num, by first | rfl | go_num⟩
      case measure => simp [intOf]
    obtain rfl : j = 3 := by omega
    go_wp2
    go_ret
    exact ⟨rfl, D7.out.bel⟩
set_option maxHeartbeats 8000000 in
set_option maxRecDepth 20000 in
theorem orE (k n : Int) (s : ByteArray) (k2 n2 : Int) (s2 : ByteArray) (h1 : decide (10000 < (s.size : Int)) = false) (h2 : decide (10000 < (s2.size : Int)) = false) (d14 : doF 14 k n s k2 n2 s2 0 = some (1, 0, ⟨#[]⟩, 0)) (d15 : doF 15 k n s k2 n2 s2 0 = some (1, 1, ⟨#[]⟩, 0)) (d16 : doF 16 k n s k2 n2 s2 0 = some (1, 0, ⟨#[]⟩, 0)) (d17 : doF 17 k n s k2 n2 s2 0 = some (1, 1, ⟨#[]⟩, 0)) (d12 : doF 12 k n s k2 n2 s2 0 = some (1, 1, ⟨#[]⟩, 0)) (w : World) (hT : Tab w) : Calls Tryd.prog 8 #[.agg #[.int .i64 k, .int .i64 n, .string s], .agg #[.int .i64 k2, .int .i64 n2, .string s2]] w fun e w' => e = .returned (.bool true) ∧ Below w.heap.size w w' := by
  have T0 := Lib.hid hT
  have D0 := Lib.hid (OD.start2 w 32 [.int .i64 k, .int .i64 n, .string s] [.int .i64 k2, .int .i64 n2, .string s2])
  have AL := Lib.hid (fun W hW => alive_calls true W hW rfl)
  have GR := Lib.hid (fun b W h => hGreat2 k n s k2 n2 s2 b W false false h h1 h2)
  have ix0 : ∀ W, (Instr.index 49 (.agg #[.bool false, .bool true, .bool false]) (.int .i64 0)).run Tryd.prog W = .ok (.bool false) W := fun W => by kernel_rfl
  have ix1 : ∀ W, (Instr.index 49 (.agg #[.bool false, .bool true, .bool false]) (.int .i64 1)).run Tryd.prog W = .ok (.bool true) W := fun W => by kernel_rfl
  have ix2 : ∀ W, (Instr.index 49 (.agg #[.bool false, .bool true, .bool false]) (.int .i64 2)).run Tryd.prog W = .ok (.bool false) W := fun W => by kernel_rfl
  have X14 := Lib.hid (fun W hW hA hB => hIs 14 w.heap.size (w.heap.size + 1) k n s k2 n2 s2 1 0 ⟨#[]⟩ 0 false W hW d14 rfl hA hB)
  have X15 := Lib.hid (fun W hW hA hB => hIs 15 w.heap.size (w.heap.size + 1) k n s k2 n2 s2 1 1 ⟨#[]⟩ 0 true W hW d15 rfl hA hB)
  have X16 := Lib.hid (fun W hW hA hB => hIs 16 w.heap.size (w.heap.size + 1) k n s k2 n2 s2 1 0 ⟨#[]⟩ 0 false W hW d16 rfl hA hB)
  have X17 := Lib.hid (fun W hW hA hB => hIs 17 w.heap.size (w.heap.size + 1) k n s k2 n2 s2 1 1 ⟨#[]⟩ 0 true W hW d17 rfl hA hB)
  have X12 := Lib.hid (fun W hW hA hB => hIs 12 w.heap.size (w.heap.size + 1) k n s k2 n2 s2 1 1 ⟨#[]⟩ 0 true W hW d12 rfl hA hB)
  clear hT h1 h2 d14 d15 d16 d17 d12
  go_enter Tryd.func8, Tryd.ntmps8
  go_wp2_with (first | (go_at_call 43; go_loud (with_reducible refine (AL.out _ (T0.out.on D0.out.bel)).mono ?_; rintro e wn ⟨rfl, hb⟩; have D1 := Lib.hid ((D0.out).on hb); clear hb; have u0 := (D1.out.blk _ (List.mem_cons_self)).2.cell 0 _ rfl; have uz0 := (D1.out.blk _ (List.mem_cons_self)).2.frozen 0; have u1 := (D1.out.blk _ (List.mem_cons_self)).2.cell 1 _ rfl; have uz1 := (D1.out.blk _ (List.mem_cons_self)).2.frozen 1; have u2 := (D1.out.blk _ (List.mem_cons_self)).2.cell 2 _ rfl; have uz2 := (D1.out.blk _ (List.mem_cons_self)).2.frozen 2; have q0 := (D1.out.blk _ (List.mem_cons_of_mem _ (List.mem_cons_self))).2.cell 0 _ rfl; have qz0 := (D1.out.blk _ (List.mem_cons_of_mem _ (List.mem_cons_self))).2.frozen 0; have q1 := (D1.out.blk _ (List.mem_cons_of_mem _ (List.mem_cons_self))).2.cell 1 _ rfl; have qz1 := (D1.out.blk _ (List.mem_cons_of_mem _ (List.mem_cons_self))).2.frozen 1; have q2 := (D1.out.blk _ (List.mem_cons_of_mem _ (List.mem_cons_self))).2.cell 2 _ rfl; have qz2 := (D1.out.blk _ (List.mem_cons_of_mem _ (List.mem_cons_self))).2.frozen 2)) | (go_at_call 44; go_loud (with_reducible refine (GR.out _ _ (Blk.new _ [.int .i64 k, .int .i64 n, .string s, .int .i64 k2, .int .i64 n2, .string s2] 32)).mono ?_; rintro e wn ⟨rfl, hb⟩; have D2 := Lib.hid ((D1.out.new 32 [.int .i64 k, .int .i64 n, .string s, .int .i64 k2, .int .i64 n2, .string s2]).on hb); clear hb; have u0 := (D2.out.blk _ (List.mem_cons_of_mem _ (List.mem_cons_self))).2.cell 0 _ rfl; have uz0 := (D2.out.blk _ (List.mem_cons_of_mem _ (List.mem_cons_self))).2.frozen 0; have u1 := (D2.out.blk _ (List.mem_cons_of_mem _ (List.mem_cons_self))).2.cell 1 _ rfl; have uz1 := (D2.out.blk _ (List.mem_cons_of_mem _ (List.mem_cons_self))).2.frozen 1; have u2 := (D2.out.blk _ (List.mem_cons_of_mem _ (List.mem_cons_self))).2.cell 2 _ rfl; have uz2 := (D2.out.blk _ (List.mem_cons_of_mem _ (List.mem_cons_self))).2.frozen 2; have q0 := (D2.out.blk _ (List.mem_cons_of_mem _ (List.mem_cons_of_mem _ (List.mem_cons_self)))).2.cell 0 _ rfl; have qz0 := (D2.out.blk _ (List.mem_cons_of_mem _ (List.mem_cons_of_mem _ (List.mem_cons_self)))).2.frozen 0; have q1 := (D2.out.blk _ (List.mem_cons_of_mem _ (List.mem_cons_of_mem _ (List.mem_cons_self)))).2.cell 1 _ rfl; have qz1 := (D2.out.blk _ (List.mem_cons_of_mem _ (List.mem_cons_of_mem _ (List.mem_cons_self)))).2.frozen 1; have q2 := (D2.out.blk _ (List.mem_cons_of_mem _ (List.mem_cons_of_mem _ (List.mem_cons_self)))).2.cell 2 _ rfl; have qz2 := (D2.out.blk _ (List.mem_cons_of_mem _ (List.mem_cons_of_mem _ (List.mem_cons_self)))).2.frozen 2)) | (go_at_call 45; (with_reducible refine (X14.out _ (T0.out.on D2.out.bel) (D2.out.blk _ (List.mem_cons_of_mem _ (List.mem_cons_of_mem _ (List.mem_cons_self)))).2 (D2.out.blk _ (List.mem_cons_of_mem _ (List.mem_cons_self))).2).mono ?_); rintro e wn ⟨rfl, hb⟩; have D3 := Lib.hid ((D2.out).on hb); clear hb) | (go_at_call 45; (with_reducible refine (X15.out _ (T0.out.on D3.out.bel) (D3.out.blk _ (List.mem_cons_of_mem _ (List.mem_cons_of_mem _ (List.mem_cons_self)))).2 (D3.out.blk _ (List.mem_cons_of_mem _ (List.mem_cons_self))).2).mono ?_); rintro e wn ⟨rfl, hb⟩; have D4 := Lib.hid ((D3.out).on hb); clear hb) | (go_at_call 45; (with_reducible refine (X16.out _ (T0.out.on D4.out.bel) (D4.out.blk _ (List.mem_cons_of_mem _ (List.mem_cons_of_mem _ (List.mem_cons_self)))).2 (D4.out.blk _ (List.mem_cons_of_mem _ (List.mem_cons_self))).2).mono ?_); rintro e wn ⟨rfl, hb⟩; have D5 := Lib.hid ((D4.out).on hb); clear hb) | (go_at_call 45; (with_reducible refine (X17.out _ (T0.out.on D5.out.bel) (D5.out.blk _ (List.mem_cons_of_mem _ (List.mem_cons_of_mem _ (List.mem_cons_self)))).2 (D5.out.blk _ (List.mem_cons_of_mem _ (List.mem_cons_self))).2).mono ?_); rintro e wn ⟨rfl, hb⟩; have D6 := Lib.hid ((D5.out).on hb); clear hb) | (go_at_call 45; (with_reducible refine (X12.out _ (T0.out.on D6.out.bel) (D6.out.blk _ (List.mem_cons_of_mem _ (List.mem_cons_of_mem _ (List.mem_cons_self)))).2 (D6.out.blk _ (List.mem_cons_of_mem _ (List.mem_cons_self))).2).mono ?_); rintro e wn ⟨rfl, hb⟩; have D7 := Lib.hid ((D6.out).on hb); clear hb))
  go_loop [16, 96] (fun nv iv => ∃ j : Nat, j ≤ 3 ∧ iv = .int .i64 j ∧ nv = .int .i64 (([0, 0, 1, 1] : List Int).getD j 0)) (fun _ iv => 3 - (intOf iv).toNat)
  case atStart => exact ⟨0, by omega, rfl, rfl⟩
  case round =>
    obtain ⟨j, hj, rfl, rfl⟩ := hrel
    by_cases e0 : j = 0
    · subst e0
      clear hj
      go_wp2
      go_round
      case rel => exact ⟨1, by omega, by first | rfl | go_num, by first | rfl | go_num⟩
      case measure => simp [intOf]
    by_cases e1 : j = 1
    · subst e1
      clear hj
      go_wp2
      go_round
      case rel => exact ⟨2, by omega, by first | rfl | go_num, by first | rfl | go_num⟩
      case measure => simp [intOf]
    by_cases e2 : j = 2
    · subst e2
      clear hj
      go_wp2
      go_round
      case rel => exact ⟨3, by omega, by first | rfl | go_num, by first | rfl | go_num⟩
      case measure => simp [intOf]
    obtain rfl : j = 3 := by omega
    go_wp2
    go_ret
    exact ⟨rfl, D7.out.bel⟩
theorem orders_walk (k n : Int) (s : ByteArray) (k2 n2 : Int) (s2 : ByteArray) (hn : inR n) (hn2 : inR n2) (w : World) (hT : Tab w) : Calls Tryd.prog 8 #[.agg #[.int .i64 k, .int .i64 n, .string s], .agg #[.int .i64 k2, .int .i64 n2, .string s2]] w fun e w' => e = .returned (.bool true) ∧ Below w.heap.size w w' := by
  by_cases g1 : 10000 < (s.size : Int)
  · exact orG1 k n s k2 n2 s2 _ (decide_eq_true g1) rfl w hT
  have h1 := decide_eq_false g1
  by_cases g2 : 10000 < (s2.size : Int)
  · exact orG2 k n s k2 n2 s2 h1 (decide_eq_true g2) w hT
  have h2 := decide_eq_false g2
  have hd : ∀ op, doF op k n s k2 n2 s2 0 = some (doT op k n s k2 n2 s2 0) := by
    intro op; unfold doF; rw [if_pos ⟨⟨hn, hn2⟩, by omega, by omega⟩]
  have e14 : doT 14 k n s k2 n2 s2 0 = if (lessB k n s k2 n2 s2).2 = true then bV ((lessB k n s k2 n2 s2).1 != false) else no 18 := rfl
  have e15 : doT 15 k n s k2 n2 s2 0 = if (lessB k2 n2 s2 k n s).2 = true then bV (!(lessB k2 n2 s2 k n s).1) else no 18 := rfl
  have e16 : doT 16 k n s k2 n2 s2 0 = if (lessB k2 n2 s2 k n s).2 = true then bV ((lessB k2 n2 s2 k n s).1 != false) else no 18 := rfl
  have e17 : doT 17 k n s k2 n2 s2 0 = if (lessB k n s k2 n2 s2).2 = true then bV (!(lessB k n s k2 n2 s2).1) else no 18 := rfl
  have e12 : doT 12 k n s k2 n2 s2 0 = bV (rawB k n s k2 n2 s2 != false) := rfl
  have d14 := hd 14
  have d15 := hd 15
  have d16 := hd 16
  have d17 := hd 17
  have d12 := hd 12
  rw [e14] at d14
  rw [e15] at d15
  rw [e16] at d16
  rw [e17] at d17
  rw [e12] at d12
  clear e14 e15 e16 e17 e12 hd
  have ok := lessB_ok k n s k2 n2 s2
  by_cases h : (lessB k n s k2 n2 s2).2 = true
  · rw [if_pos (ok ▸ h)] at d15 d16
    rw [if_pos h] at d14 d17
    rcases tri k n s k2 n2 s2 h with ⟨a, b, c⟩ | ⟨a, b, c⟩ | ⟨a, b, c⟩ <;> rw [a] at d14 d17 <;> rw [b] at d15 d16 <;> rw [c] at d12
    · exact orL k n s k2 n2 s2 h1 h2 d14 d15 d16 d17 d12 w hT
    · exact orM k n s k2 n2 s2 h1 h2 d14 d15 d16 d17 d12 w hT
    · exact orE k n s k2 n2 s2 h1 h2 d14 d15 d16 d17 d12 w hT
  · rw [if_neg (ok ▸ h)] at d15 d16
    rw [if_neg h] at d14 d17
    rcases c : rawB k n s k2 n2 s2 with _ | _ <;> rw [c] at d12
    · exact orN0 k n s k2 n2 s2 h1 h2 d14 d15 d16 d17 d12 w hT
    · exact orN1 k n s k2 n2 s2 h1 h2 d14 d15 d16 d17 d12 w hT
end Go.Proofs.YtpgpmldaggpciaaDoor.GW
