/- The statement ConvBack, walked by hand. -/
import Derived.Test.YtpgpmldaggpciaaDoorA3
import Derived.Test.YtpgpmldaggpciaaDoorOD
import Derived.OrdersHeld
import Derived.Deep.QuietTactic
import Derived.BigQuiet
set_option linter.unusedVariables false
set_option linter.unusedSimpArgs false
namespace Go.Proofs.YtpgpmldaggpciaaDoor.Conv03
open Go.RowKit Go.Proofs.YtpgpmldaggpciaaDoorW.PrintWords Go.Proofs.YtpgpmldaggpciaaDoorW.PrintLast Go.Proofs.YtpgpmldaggpciaaDoorW.PrintMore Go.Proofs.YtpgpmldaggpciaaDoor.Maths Go.Proofs.YtpgpmldaggpciaaDoor.ConvP Go.Proofs.YtpgpmldaggpciaaDoor.TabW Go.Proofs.YtpgpmldaggpciaaDoor.HK
def wsN (r : Nat) : Nat := if r = 0 then 9 else if r = 1 then 10 else if r = 2 then 11 else if r = 3 then 12 else if r = 4 then 13 else 32
def padB : Nat → ByteArray
  | 0 => ⟨#[]⟩
  | k + 1 => padB k ++ ⟨#[UInt8.ofNat (wsN (k % 6))]⟩
def zeroB (S : ByteArray) : Nat → ByteArray
  | 0 => S
  | k + 1 => (⟨#[48]⟩ : ByteArray) ++ zeroB S k
theorem bel0 {w W : World} (h : Below w.heap.size w W) (o : Obj) : Below w.heap.size w (W.alloc o) := h.alloc h.size o
theorem ws_lt (r : Nat) : wsN r < 256 := by unfold wsN; (repeat' split) <;> omega
theorem padB_size : ∀ k, (padB k).size = k
  | 0 => rfl
  | k + 1 => by rw [padB, ByteArray.size_append, padB_size k]; rfl
theorem byte_cell (w : World) (v : Nat) (hv : v < 256) : ∀ j (hj : j < [UInt8.ofNat v].length), (w.alloc (.cells #[.int .u8 v] 5)).cell? ((⟨w.heap.size, 0, none⟩ : Addr).add j) = some (.int .u8 ([UInt8.ofNat v][j].toNat : Int)) := by
  intro j hj
  obtain rfl : j = 0 := by simp at hj; omega
  have h := (Blk.new w [.int .u8 v] 5).cell 0 _ rfl
  have e : ([UInt8.ofNat v][0].toNat : Int) = (v : Int) := by simp; omega
  rw [e]
  exact h
theorem zeroB_size (S : ByteArray) : ∀ k, (zeroB S k).size = S.size + k
  | 0 => rfl
  | k + 1 => by
    have h := zeroB_size S k
    have e : (⟨#[48]⟩ : ByteArray).size = 1 := rfl
    rw [zeroB, ByteArray.size_append, h, e]; omega
set_option maxHeartbeats 16000000 in
set_option maxRecDepth 20000 in
theorem back1 (n zs bs : Int) (S : ByteArray) (hS : S.size ≤ 21) (K : Nat) (hK : K < 20) (hk1 : wrap64 (bs.tmod 20) = (K : Int)) (hneg : decide (n < 0) = true) (PR : ∀ W, Tab W → Calls Tryd.prog 13 #[.int .i64 n] W fun e w' => e = .returned (.string S) ∧ Below W.heap.size W w') (F1 : ∀ W, Tab W → Calls Tryd.prog 14 #[.string (padB K ++ S ++ padB K)] W fun e w' => e = .returned (.tuple #[.int .i64 n, .bool true]) ∧ Below W.heap.size W w') (F2 : ∀ W, Tab W → Calls Tryd.prog 15 #[.string (padB K ++ S ++ padB K), .int .i64 10] W fun e w' => e = .returned (.tuple #[.int .i64 n, .bool true]) ∧ Below W.heap.size W w') (w : World) (hT : Tab w) : Calls Tryd.prog 3 #[.int .i64 n, .int .u8 zs, .int .u8 bs] w fun e w' => e = .returned (.bool true) ∧ Below w.heap.size w w' := by
  have T0 := Lib.hid hT
  have H0 := Lib.hid (Below.refl w.heap.size w)
  have AL := Lib.hid (fun W hW => alive_calls W hW)
  have ix : Hid (∀ r : Nat, r < 6 → ∀ W, (Instr.index 24 (.agg #[.int .u8 9, .int .u8 10, .int .u8 11, .int .u8 12, .int .u8 13, .int .u8 32]) (.int .i64 r)).run Tryd.prog W = .ok (.int .u8 (wsN r)) W) := Lib.hid (by
    intro r hr W
    obtain rfl | rfl | rfl | rfl | rfl | rfl : r = 0 ∨ r = 1 ∨ r = 2 ∨ r = 3 ∨ r = 4 ∨ r = 5 := by omega
    all_goals kernel_rfl)
  have P0 := Lib.hid PR
  have F1 := Lib.hid F1
  have F2 := Lib.hid F2
  clear hT PR
  go_enter Tryd.func3, Tryd.ntmps3
  go_wp2_with (first | (go_at_call 12; go_loud (with_reducible refine (AL.out _ T0.out).mono ?_; rintro e w1 ⟨rfl, hb⟩; have H1 := Lib.hid ((H0.out).trans (hb.mono (H0.out).size)); clear hb)) | (go_at_call 13; go_loud (with_reducible refine (P0.out _ (T0.out.on H1.out)).mono ?_; rintro e w2 ⟨rfl, hb⟩; have H2 := Lib.hid ((H1.out).trans (hb.mono (H1.out).size)); clear hb)))
  go_loopw [8, 9, 25] (fun pv _ iv wr => ∃ j : Nat, j ≤ K ∧ iv = .int .i64 j ∧ pv = .string (padB j) ∧ Hid (Below w.heap.size w wr)) (fun _ _ iv _ => K - (intOf iv).toNat)
  case atStart => exact ⟨0, by omega, by rfl, rfl, H2⟩
  case round =>
    obtain ⟨j, hj, rfl, rfl, HB⟩ := hrel
    by_cases hlt : j < K
    · have hix : ∀ W, (Instr.index 24 (.agg #[.int .u8 9, .int .u8 10, .int .u8 11, .int .u8 12, .int .u8 13, .int .u8 32]) (.int .i64 ((j : Int) % 6))).run Tryd.prog W = .ok (.int .u8 (wsN (j % 6))) W := fun W => by
        rw [show ((j : Int) % 6) = ((j % 6 : Nat) : Int) from by omega]; exact ix.out _ (Nat.mod_lt _ (by decide)) W
      have hcv : (convert 25 9 (.slice (some ⟨wr.heap.size, 0, none⟩) 1 1)).run Tryd.prog (wr.alloc (.cells #[.int .u8 (wsN (j % 6))] 5)) = .ok (.string ⟨#[UInt8.ofNat (wsN (j % 6))]⟩) (wr.alloc (.cells #[.int .u8 (wsN (j % 6))] 5)) :=
        Go.run_convert_bytes_back _ _ _ _ _ _ [UInt8.ofNat (wsN (j % 6))] Tryd.underlying25 Tryd.underlying5 Tryd.underlying9 (byte_cell wr (wsN (j % 6)) (ws_lt _))
      have hsz : (9223372036854775807 < (padB j).size + 1) = False := by rw [padB_size]; exact eq_false (by omega)
      have HL := Lib.hid hlt
      clear hj hneg
      go_wp2
      go_roundw
      case rel => exact ⟨j + 1, HL.out, by go_num, rfl, Lib.hid (bel0 HB.out _)⟩
      case measure => (have := HL.out; simp only [intOf]; omega)
    · obtain rfl : j = K := by omega
      have hp := padB_size j
      have hs1 : (9223372036854775807 < (padB j).size + S.size) = False := eq_false (by omega)
      have hs2 : (9223372036854775807 < (padB j ++ S).size + (padB j).size) = False := eq_false (by rw [ByteArray.size_append]; omega)
      have hs3 : (9223372036854775807 < (padB j).size + S.size + (padB j).size) = False := eq_false (by omega)
      clear hp hlt hj
      go_wp2_with (first | (go_at_call 14; go_loud (with_reducible refine (F1.out _ (T0.out.on HB.out)).mono ?_; rintro e w3 ⟨rfl, hb⟩; have H3 := Lib.hid ((HB.out).trans (hb.mono (HB.out).size)); clear hb)) | (go_at_call 15; go_loud (with_reducible refine (F2.out _ (T0.out.on H3.out)).mono ?_; rintro e w4 ⟨rfl, hb⟩; have H4 := Lib.hid ((H3.out).trans (hb.mono (H3.out).size)); clear hb)))
      go_ret
      exact ⟨rfl, H4.out⟩
set_option maxHeartbeats 16000000 in
set_option maxRecDepth 20000 in
theorem back2 (n zs bs : Int) (S : ByteArray) (hS : S.size ≤ 21) (K : Nat) (hK : K < 20) (hk1 : wrap64 (bs.tmod 20) = (K : Int)) (hneg : decide (n < 0) = false) (PR : ∀ W, Tab W → Calls Tryd.prog 13 #[.int .i64 n] W fun e w' => e = .returned (.string S) ∧ Below W.heap.size W w') (F1 : ∀ W, Tab W → Calls Tryd.prog 14 #[.string (padB K ++ S ++ padB K)] W fun e w' => e = .returned (.tuple #[.int .i64 n, .bool true]) ∧ Below W.heap.size W w') (F2 : ∀ W, Tab W → Calls Tryd.prog 15 #[.string (padB K ++ S ++ padB K), .int .i64 10] W fun e w' => e = .returned (.tuple #[.int .i64 n, .bool true]) ∧ Below W.heap.size W w') (J : Nat) (hJ : J < 30) (hj1 : zs.tmod 30 = (J : Int)) (F3 : ∀ W, Tab W → Calls Tryd.prog 16 #[.string (zeroB S J)] W fun e w' => e = .returned (.tuple #[.int .i64 n, .bool true]) ∧ Below W.heap.size W w') (F4 : ∀ W, Tab W → Calls Tryd.prog 14 #[.string ((⟨#[43]⟩ : ByteArray) ++ zeroB S J)] W fun e w' => e = .returned (.tuple #[.int .i64 n, .bool true]) ∧ Below W.heap.size W w') (w : World) (hT : Tab w) : Calls Tryd.prog 3 #[.int .i64 n, .int .u8 zs, .int .u8 bs] w fun e w' => e = .returned (.bool true) ∧ Below w.heap.size w w' := by
  have T0 := Lib.hid hT
  have H0 := Lib.hid (Below.refl w.heap.size w)
  have AL := Lib.hid (fun W hW => alive_calls W hW)
  have ix : Hid (∀ r : Nat, r < 6 → ∀ W, (Instr.index 24 (.agg #[.int .u8 9, .int .u8 10, .int .u8 11, .int .u8 12, .int .u8 13, .int .u8 32]) (.int .i64 r)).run Tryd.prog W = .ok (.int .u8 (wsN r)) W) := Lib.hid (by
    intro r hr W
    obtain rfl | rfl | rfl | rfl | rfl | rfl : r = 0 ∨ r = 1 ∨ r = 2 ∨ r = 3 ∨ r = 4 ∨ r = 5 := by omega
    all_goals kernel_rfl)
  have P0 := Lib.hid PR
  have F1 := Lib.hid F1
  have F2 := Lib.hid F2
  have F3 := Lib.hid F3
  have F4 := Lib.hid F4
  clear hT PR
  go_enter Tryd.func3, Tryd.ntmps3
  go_wp2_with (first | (go_at_call 12; go_loud (with_reducible refine (AL.out _ T0.out).mono ?_; rintro e w1 ⟨rfl, hb⟩; have H1 := Lib.hid ((H0.out).trans (hb.mono (H0.out).size)); clear hb)) | (go_at_call 13; go_loud (with_reducible refine (P0.out _ (T0.out.on H1.out)).mono ?_; rintro e w2 ⟨rfl, hb⟩; have H2 := Lib.hid ((H1.out).trans (hb.mono (H1.out).size)); clear hb)))
  go_loopw [8, 9, 25] (fun pv _ iv wr => ∃ j : Nat, j ≤ K ∧ iv = .int .i64 j ∧ pv = .string (padB j) ∧ Hid (Below w.heap.size w wr)) (fun _ _ iv _ => K - (intOf iv).toNat)
  case atStart => exact ⟨0, by omega, by rfl, rfl, H2⟩
  case round =>
    obtain ⟨j, hj, rfl, rfl, HB⟩ := hrel
    by_cases hlt : j < K
    · have hix : ∀ W, (Instr.index 24 (.agg #[.int .u8 9, .int .u8 10, .int .u8 11, .int .u8 12, .int .u8 13, .int .u8 32]) (.int .i64 ((j : Int) % 6))).run Tryd.prog W = .ok (.int .u8 (wsN (j % 6))) W := fun W => by
        rw [show ((j : Int) % 6) = ((j % 6 : Nat) : Int) from by omega]; exact ix.out _ (Nat.mod_lt _ (by decide)) W
      have hcv : (convert 25 9 (.slice (some ⟨wr.heap.size, 0, none⟩) 1 1)).run Tryd.prog (wr.alloc (.cells #[.int .u8 (wsN (j % 6))] 5)) = .ok (.string ⟨#[UInt8.ofNat (wsN (j % 6))]⟩) (wr.alloc (.cells #[.int .u8 (wsN (j % 6))] 5)) :=
        Go.run_convert_bytes_back _ _ _ _ _ _ [UInt8.ofNat (wsN (j % 6))] Tryd.underlying25 Tryd.underlying5 Tryd.underlying9 (byte_cell wr (wsN (j % 6)) (ws_lt _))
      have hsz : (9223372036854775807 < (padB j).size + 1) = False := by rw [padB_size]; exact eq_false (by omega)
      have HL := Lib.hid hlt
      clear hj hneg
      go_wp2
      go_roundw
      case rel => exact ⟨j + 1, HL.out, by go_num, rfl, Lib.hid (bel0 HB.out _)⟩
      case measure => (have := HL.out; simp only [intOf]; omega)
    · obtain rfl : j = K := by omega
      have hp := padB_size j
      have hs1 : (9223372036854775807 < (padB j).size + S.size) = False := eq_false (by omega)
      have hs2 : (9223372036854775807 < (padB j ++ S).size + (padB j).size) = False := eq_false (by rw [ByteArray.size_append]; omega)
      have hs3 : (9223372036854775807 < (padB j).size + S.size + (padB j).size) = False := eq_false (by omega)
      clear hp hlt hj
      go_wp2_with (first | (go_at_call 14; go_loud (with_reducible refine (F1.out _ (T0.out.on HB.out)).mono ?_; rintro e w3 ⟨rfl, hb⟩; have H3 := Lib.hid ((HB.out).trans (hb.mono (HB.out).size)); clear hb)) | (go_at_call 15; go_loud (with_reducible refine (F2.out _ (T0.out.on H3.out)).mono ?_; rintro e w4 ⟨rfl, hb⟩; have H4 := Lib.hid ((H3.out).trans (hb.mono (H3.out).size)); clear hb)))
      go_loop [7, 75] (fun sv cv => ∃ i : Nat, i ≤ J ∧ cv = .int .u8 i ∧ sv = .string (zeroB S i)) (fun _ cv => J - (intOf cv).toNat)
      case atStart => exact ⟨0, by omega, rfl, rfl⟩
      case round =>
        obtain ⟨i, hi, rfl, rfl⟩ := hrel
        by_cases hlt : i < J
        · have hz := zeroB_size S i
          have hs4 : (9223372036854775807 < 1 + (zeroB S i).size) = False := eq_false (by omega)
          have hu8 : IntKind.u8.wrap ((i : Int) + 1) = (i : Int) + 1 := by rw [IntKind.wrap_u8]; omega
          have HL := Lib.hid hlt
          clear hz hi
          go_wp2
          go_round
          case rel => exact ⟨i + 1, HL.out, by first | rfl | (rw [hu8]; rfl) | go_num, rfl⟩
          case measure => ((try rw [hu8]); clear hu8; have := HL.out; simp only [intOf]; omega)
        · obtain rfl : i = J := by omega
          have hz := zeroB_size S i
          have hs4 : (9223372036854775807 < 1 + (zeroB S i).size) = False := eq_false (by omega)
          clear hz hi hlt
          go_wp2_with (first | (go_at_call 16; go_loud (with_reducible refine (F3.out _ (T0.out.on H4.out)).mono ?_; rintro e w5 ⟨rfl, hb⟩; have H5 := Lib.hid ((H4.out).trans (hb.mono (H4.out).size)); clear hb)) | (go_at_call 14; go_loud (with_reducible refine (F4.out _ (T0.out.on H5.out)).mono ?_; rintro e w6 ⟨rfl, hb⟩; have H6 := Lib.hid ((H5.out).trans (hb.mono (H5.out).size)); clear hb)))
          go_ret
          exact ⟨rfl, H6.out⟩
theorem dig_of (m : Nat) (h : m < 10) : dig (UInt8.ofNat (48 + m)) = m := by
  have e : (UInt8.ofNat (48 + m)).toNat = 48 + m := by simp; omega
  unfold dig; rw [if_pos (by omega)]; omega
theorem okD_app (b : Nat) (l m : List UInt8) : okD b (l ++ m) = (okD b l && okD b m) := by unfold okD; rw [List.all_append]
theorem valD_app (b : Nat) (l : List UInt8) (c : UInt8) : valD b (l ++ [c]) = valD b l * b + dig c := by unfold valD valA; rw [List.foldl_append]; rfl
theorem dec_ok (u : Nat) : okD 10 (Lib.decDigits u) = true ∧ valD 10 (Lib.decDigits u) = u ∧ Lib.decDigits u ≠ [] := by
  induction u using Nat.strongRecOn with
  | ind u ih =>
    by_cases h : u < 10
    · rw [Lib.decDigits_one h]
      have e := dig_of u h
      refine ⟨?_, ?_, by simp⟩
      · unfold okD; rw [List.all_cons, e]; simp [h]
      · show 0 * 10 + dig _ = u
        rw [e]; omega
    · rw [dec_big u h]
      obtain ⟨a, b, c⟩ := ih (u / 10) (by omega)
      have e := dig_of (u % 10) (by omega)
      refine ⟨?_, ?_, by simp⟩
      · rw [okD_app, a, Bool.true_and]; unfold okD; rw [List.all_cons, e]; simp; omega
      · rw [valD_app, b, e]; omega
theorem okD_mem {b : Nat} {l : List UInt8} (h : okD b l = true) (c : UInt8) (hc : c ∈ l) : dig c < b := by
  unfold okD at h; have := List.all_eq_true.1 h c hc; simpa using this
theorem dig_notblank (c : UInt8) (h : dig c < 10) : blank c = false := by
  have := (dig_10 c).1 h
  unfold blank; rw [decide_eq_false_iff_not]; omega
theorem hexed_no {l : List UInt8} (h : okD 10 l = true) : hexed l = false := by
  match l, h with
  | [], _ => rfl
  | [a], _ => simp [hexed, List.isPrefixOf]
  | a :: c :: r, h =>
    have hc := okD_mem h c (by simp)
    have e1 : ((120 : UInt8) == c) = false := beq_eq_false_iff_ne.2 (by rintro rfl; revert hc; decide)
    have e2 : ((88 : UInt8) == c) = false := beq_eq_false_iff_ne.2 (by rintro rfl; revert hc; decide)
    unfold hexed
    simp only [List.isPrefixOf_cons_cons, e1, e2, Bool.false_and, Bool.and_false, Bool.or_false]
theorem numL_dec {l : List UInt8} (most u : Nat) (h : okD 10 l = true) (hv : valD 10 l = u) (hne : l ≠ []) (hu : u ≤ most) (hm : u < 18446744073709551616) : numL l most = (wrap64 (u : Int), true) := by
  unfold numL
  rw [hexed_no h, if_neg (by decide), if_pos ⟨h, hne, by rw [hv]; exact hm, by rw [hv]; exact hu⟩, hv]
theorem head_no {l : List UInt8} (c : UInt8) (hc : ¬ dig c < 10) (h : okD 10 l = true) : [c].isPrefixOf l = false := by
  match l, h with
  | [], _ => rfl
  | a :: r, h =>
    have ha := okD_mem h a (by simp)
    have e : (c == a) = false := beq_eq_false_iff_ne.2 (by rintro rfl; exact hc ha)
    rw [List.isPrefixOf_cons_cons, e]; rfl
/-- what a number's text is read as -/
theorem toIntT_itoa (n : Int) (hn : -9223372036854775808 ≤ n ∧ n ≤ 9223372036854775807) : toIntT (itoaS n) = (n, true) := by
  have hl : (itoaS n).data.toList = Lib.itoa n := by simp [itoaS]
  unfold toIntT ahead
  rw [hl]
  by_cases h : n < 0
  · obtain ⟨m, rfl⟩ : ∃ m : Nat, n = -(m : Int) := ⟨n.natAbs, by omega⟩
    obtain ⟨a, b, c⟩ := dec_ok m
    rw [itoa_neg m (by omega), if_pos (by simp), List.drop_one, List.tail_cons, numL_dec 9223372036854775808 m a b c (by omega) (by omega)]
    have e : wrap64 (-wrap64 (m : Int)) = -(m : Int) := by
      by_cases hm : m = 9223372036854775808
      · subst hm; unfold wrap64; omega
      · rw [wrap64_in (show -9223372036854775808 ≤ (m : Int) ∧ (m : Int) ≤ 9223372036854775807 by omega), wrap64_in (by omega)]
    rw [e]
  · obtain ⟨m, rfl⟩ := Int.eq_ofNat_of_zero_le (show 0 ≤ n by omega)
    obtain ⟨a, b, c⟩ := dec_ok m
    rw [itoa_pos m, head_no 45 (by decide) a, if_neg (by decide), head_no 43 (by decide) a, if_neg (by decide), numL_dec _ m a b c (by omega) (by omega), wrap64_in (by omega)]
theorem baseT_itoa (n : Int) (hn : -9223372036854775808 ≤ n ∧ n ≤ 9223372036854775807) : baseT 10 (itoaS n) = (n, true) := by
  have hl : (itoaS n).data.toList = Lib.itoa n := by simp [itoaS]
  unfold baseT ahead
  rw [hl, if_neg (by decide)]
  by_cases h : n < 0
  · obtain ⟨m, rfl⟩ : ∃ m : Nat, n = -(m : Int) := ⟨n.natAbs, by omega⟩
    obtain ⟨a, b, c⟩ := dec_ok m
    have er : roundF (10 : Int).toNat (Lib.decDigits m) = (wrap64 (m : Int), true) := by
      show roundF 10 _ = _
      unfold roundF; rw [if_pos a, b]
      cases hd : Lib.decDigits m with
      | nil => exact absurd hd c
      | cons => rfl
    rw [itoa_neg m (by omega), if_pos (by simp), List.drop_one, List.tail_cons, er]
    have e : wrap64 (-wrap64 (m : Int)) = -(m : Int) := by
      by_cases hm : m = 9223372036854775808
      · subst hm; unfold wrap64; omega
      · rw [wrap64_in (show -9223372036854775808 ≤ (m : Int) ∧ (m : Int) ≤ 9223372036854775807 by omega), wrap64_in (by omega)]
    rw [e]
  · obtain ⟨m, rfl⟩ := Int.eq_ofNat_of_zero_le (show 0 ≤ n by omega)
    obtain ⟨a, b, c⟩ := dec_ok m
    rw [itoa_pos m, head_no 45 (by decide) a, if_neg (by decide)]
    show roundF 10 _ = _
    unfold roundF; rw [if_pos a, b, wrap64_in (by omega)]
    cases hd : Lib.decDigits m with
    | nil => exact absurd hd c
    | cons => rfl
theorem itoa_solid (n : Int) (hn : -9223372036854775808 ≤ n ∧ n ≤ 9223372036854775807) : (∀ c ∈ Lib.itoa n, blank c = false) ∧ Lib.itoa n ≠ [] := by
  by_cases h : n < 0
  · obtain ⟨m, rfl⟩ : ∃ m : Nat, n = -(m : Int) := ⟨n.natAbs, by omega⟩
    obtain ⟨a, b, c⟩ := dec_ok m
    rw [itoa_neg m (by omega)]
    refine ⟨fun x hx => ?_, by simp⟩
    rcases List.mem_cons.1 hx with rfl | hx
    · decide
    · exact dig_notblank x (okD_mem a x hx)
  · obtain ⟨m, rfl⟩ := Int.eq_ofNat_of_zero_le (show 0 ≤ n by omega)
    obtain ⟨a, b, c⟩ := dec_ok m
    rw [itoa_pos m]
    exact ⟨fun x hx => dig_notblank x (okD_mem a x hx), c⟩
theorem drop_all (p : UInt8 → Bool) : ∀ (l m : List UInt8), (∀ c ∈ l, p c = true) → (l ++ m).dropWhile p = m.dropWhile p
  | [], _, _ => rfl
  | c :: l, m, h => by rw [List.cons_append, List.dropWhile_cons, if_pos (h c (by simp)), drop_all p l m (fun x hx => h x (by simp [hx]))]
theorem drop_head (p : UInt8 → Bool) (l m : List UInt8) (h : ∀ c ∈ l, p c = false) (hne : l ≠ []) : (l ++ m).dropWhile p = l ++ m := by
  cases l with
  | nil => exact absurd rfl hne
  | cons c l => rw [List.cons_append, List.dropWhile_cons, if_neg (by rw [h c (by simp)]; decide)]
theorem trimL_pad (p l : List UInt8) (hp : ∀ c ∈ p, blank c = true) (hl : ∀ c ∈ l, blank c = false) (hne : l ≠ []) : trimL (p ++ l ++ p) = l := by
  have e : rtrim (p ++ l ++ p) = p ++ l := by
    unfold rtrim
    rw [List.reverse_append, List.reverse_append, drop_all blank p.reverse _ (fun c hc => hp c (by simpa using hc)), drop_head blank l.reverse _ (fun c hc => hl c (by simpa using hc)) (by simpa using hne), List.reverse_append, List.reverse_reverse, List.reverse_reverse]
  unfold trimL ltrim
  rw [e, drop_all blank p l hp]
  have := drop_head blank l [] hl hne
  simpa using this
theorem padB_list : ∀ k, ∀ c ∈ (padB k).data.toList, blank c = true
  | 0 => by intro c hc; exact absurd hc (by simp [padB])
  | k + 1 => by
    intro c hc
    rw [padB, ByteArray.data_append, Array.toList_append] at hc
    rcases List.mem_append.1 hc with hc | hc
    · exact padB_list k c hc
    · have e : c = UInt8.ofNat (wsN (k % 6)) := by simpa using hc
      subst e
      generalize k % 6 = r
      unfold wsN
      (repeat' split) <;> decide
theorem trimB_pad (K : Nat) (n : Int) (hn : -9223372036854775808 ≤ n ∧ n ≤ 9223372036854775807) : trimB (padB K ++ itoaS n ++ padB K) = itoaS n := by
  obtain ⟨a, b⟩ := itoa_solid n hn
  have hl : (itoaS n).data.toList = Lib.itoa n := by simp [itoaS]
  unfold trimB
  rw [ByteArray.data_append, ByteArray.data_append, Array.toList_append, Array.toList_append, hl, trimL_pad _ _ (padB_list K) a b]
  rfl
theorem zeros_ok (S : ByteArray) (u : Nat) (h : okD 10 S.data.toList = true) (hv : valD 10 S.data.toList = u) (hne : S.data.toList ≠ []) : ∀ k, okD 10 (zeroB S k).data.toList = true ∧ valD 10 (zeroB S k).data.toList = u ∧ (zeroB S k).data.toList ≠ []
  | 0 => ⟨h, hv, hne⟩
  | k + 1 => by
    obtain ⟨a, b, c⟩ := zeros_ok S u h hv hne k
    have e : (zeroB S (k + 1)).data.toList = 48 :: (zeroB S k).data.toList := by rw [zeroB, ByteArray.data_append, Array.toList_append]; rfl
    rw [e]
    refine ⟨?_, ?_, by simp⟩
    · have : okD 10 (48 :: (zeroB S k).data.toList) = (decide (dig 48 < 10) && okD 10 (zeroB S k).data.toList) := rfl
      rw [this, a]; decide
    · have : valD 10 (48 :: (zeroB S k).data.toList) = valD 10 (zeroB S k).data.toList := rfl
      rw [this, b]
theorem trimB_solid (s : ByteArray) (h : ∀ c ∈ s.data.toList, blank c = false) (hne : s.data.toList ≠ []) : trimB s = s := by
  have := trimL_pad [] s.data.toList (by simp) h hne
  unfold trimB
  rw [show trimL s.data.toList = s.data.toList by simpa using this]
theorem itoaS_len (n : Int) (hn : -9223372036854775808 ≤ n ∧ n ≤ 9223372036854775807) : (itoaS n).size ≤ 21 := by
  unfold itoaS
  by_cases h : n < 0
  · obtain ⟨m, rfl⟩ : ∃ m : Nat, n = -(m : Int) := ⟨n.natAbs, by omega⟩
    rw [itoa_neg m (by omega), size_mk, List.length_cons]
    have := dec_len m (by omega); omega
  · obtain ⟨m, rfl⟩ := Int.eq_ofNat_of_zero_le (show 0 ≤ n by omega)
    rw [itoa_pos m, size_mk]
    have := dec_len m (by omega); omega
theorem back_walk (n zs bs : Int) (hn : -9223372036854775808 ≤ n ∧ n ≤ 9223372036854775807) (hz : 0 ≤ zs ∧ zs ≤ 255) (hb : 0 ≤ bs ∧ bs ≤ 255) (w : World) (hT : Tab w) : Calls Tryd.prog 3 #[.int .i64 n, .int .u8 zs, .int .u8 bs] w fun e w' => e = .returned (.bool true) ∧ Below w.heap.size w w' := by
  obtain ⟨S, hS⟩ : ∃ S, S = itoaS n := ⟨_, rfl⟩
  have lS := itoaS_len n hn
  have PR : ∀ W, Tab W → Calls Tryd.prog 13 #[.int .i64 n] W fun e w' => e = .returned (.string S) ∧ Below W.heap.size W w' := fun W hW => print_calls n S W hW (by unfold printF fmtF; rw [if_pos ⟨rfl, hn⟩, hS])
  obtain ⟨K, hK⟩ : ∃ K : Nat, bs.toNat % 20 = K := ⟨_, rfl⟩
  have hk1 : wrap64 (bs.tmod 20) = (K : Int) := by
    rw [Int.tmod_eq_emod_of_nonneg hb.1, wrap64_in (by omega)]; omega
  have hKl : K < 20 := by omega
  have tz : trimB (padB K ++ S ++ padB K) = S := by rw [hS]; exact trimB_pad K n hn
  have sz : (padB K ++ S ++ padB K).size ≤ 140737488351232 := by
    have := padB_size K
    rw [ByteArray.size_append, ByteArray.size_append, hS]; omega
  have F1 : ∀ W, Tab W → Calls Tryd.prog 14 #[.string (padB K ++ S ++ padB K)] W fun e w' => e = .returned (.tuple #[.int .i64 n, .bool true]) ∧ Below W.heap.size W w' := fun W hW => toInt_calls _ n true W hW (by unfold toIntF GF; rw [if_pos sz, tz, hS, toIntT_itoa n hn])
  have F2 : ∀ W, Tab W → Calls Tryd.prog 15 #[.string (padB K ++ S ++ padB K), .int .i64 10] W fun e w' => e = .returned (.tuple #[.int .i64 n, .bool true]) ∧ Below W.heap.size W w' := fun W hW => base_calls _ 10 n true W hW (by unfold baseF GF; rw [if_pos sz, tz, hS, baseT_itoa n hn])
  by_cases h : n < 0
  · exact back1 n zs bs S (by rw [hS]; exact lS) K hKl hk1 (decide_eq_true h) PR F1 F2 w hT
  obtain ⟨J, hJ⟩ : ∃ J : Nat, zs.toNat % 30 = J := ⟨_, rfl⟩
  have hj1 : zs.tmod 30 = (J : Int) := by
    rw [Int.tmod_eq_emod_of_nonneg hz.1]; omega
  have hJl : J < 30 := by omega
  obtain ⟨m, rfl⟩ := Int.eq_ofNat_of_zero_le (show 0 ≤ n by omega)
  obtain ⟨a, b, c⟩ := dec_ok m
  have hl : S.data.toList = Lib.decDigits m := by rw [hS]; simp [itoaS, itoa_pos m]
  obtain ⟨a2, b2, c2⟩ := zeros_ok S m (by rw [hl]; exact a) (by rw [hl]; exact b) (by rw [hl]; exact c) J
  have zS := zeroB_size S J
  have nl := numL_dec 9223372036854775807 m a2 b2 c2 (by omega) (by omega)
  rw [wrap64_in (by omega)] at nl
  have F3 : ∀ W, Tab W → Calls Tryd.prog 16 #[.string (zeroB S J)] W fun e w' => e = .returned (.tuple #[.int .i64 (m : Int), .bool true]) ∧ Below W.heap.size W w' := fun W hW => numeral2_calls _ _ true W hW (by unfold numeral2F GF; rw [if_pos (by rw [zS, hS]; omega), nl])
  have e43 : ((⟨#[43]⟩ : ByteArray) ++ zeroB S J).data.toList = 43 :: (zeroB S J).data.toList := by rw [ByteArray.data_append, Array.toList_append]; rfl
  have ts : trimB ((⟨#[43]⟩ : ByteArray) ++ zeroB S J) = (⟨#[43]⟩ : ByteArray) ++ zeroB S J := by
    refine trimB_solid _ (fun c hc => ?_) (by rw [e43]; simp)
    rw [e43] at hc
    rcases List.mem_cons.1 hc with rfl | hc
    · decide
    · exact dig_notblank c (okD_mem a2 c hc)
  have F4 : ∀ W, Tab W → Calls Tryd.prog 14 #[.string ((⟨#[43]⟩ : ByteArray) ++ zeroB S J)] W fun e w' => e = .returned (.tuple #[.int .i64 (m : Int), .bool true]) ∧ Below W.heap.size W w' := fun W hW => toInt_calls _ _ true W hW (by
    unfold toIntF GF
    rw [if_pos (by have e : (⟨#[43]⟩ : ByteArray).size = 1 := rfl
                   rw [ByteArray.size_append, zS, hS, e]; omega), ts]
    unfold toIntT ahead
    rw [e43, if_neg (by simp [List.isPrefixOf]), if_pos (by simp [List.isPrefixOf]), List.drop_one, List.tail_cons, nl])
  exact back2 m zs bs S (by rw [hS]; exact lS) K hKl hk1 (decide_eq_false h) PR F1 F2 J hJl hj1 F3 F4 w hT
end Go.Proofs.YtpgpmldaggpciaaDoor.Conv03
