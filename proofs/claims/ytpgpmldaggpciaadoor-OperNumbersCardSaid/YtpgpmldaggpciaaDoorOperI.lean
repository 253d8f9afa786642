/- Package oper by hand: Do and One answer as the plain functions. -/
import Derived.Test.YtpgpmldaggpciaaDoorOperH
set_option linter.unusedVariables false
set_option linter.unusedSimpArgs false
namespace Go.Proofs.YtpgpmldaggpciaaDoor.GW
open Go.RowKit Go.Proofs.YtpgpmldaggpciaaDoorW.PrintWords Go.Proofs.YtpgpmldaggpciaaDoorW.PrintLast Go.Proofs.YtpgpmldaggpciaaDoorW.PrintMore Go.Proofs.YtpgpmldaggpciaaDoor.Maths Go.Proofs.YtpgpmldaggpciaaDoor.TabW Go.Proofs.YtpgpmldaggpciaaDoor.HK Go.Proofs.YtpgpmldaggpciaaDoor.Val
theorem hDo (op : Int) (k n : Int) (s : ByteArray) (k2 n2 : Int) (s2 : ByteArray) (most : Int) (hn : inR n) (hn2 : inR n2) (hs : s.size ≤ 140737488351232) (hs2 : s2.size ≤ 140737488351232) (w : World) (hT : Tab w) : Calls Tryd.prog 46 #[.int .i64 op, .agg #[.int .i64 k, .int .i64 n, .string s], .agg #[.int .i64 k2, .int .i64 n2, .string s2], .int .i64 most] w fun e w' => e = .returned (.tuple #[.agg #[.int .i64 (doT op k n s k2 n2 s2 most).1, .int .i64 (doT op k n s k2 n2 s2 most).2.1, .string (doT op k n s k2 n2 s2 most).2.2.1], .int .i64 (doT op k n s k2 n2 s2 most).2.2.2]) ∧ Below w.heap.size w w' := by
  unfold doT
  by_cases h16 : op = 16
  · subst h16
    rw [if_pos rfl]; unfold baseT
    rw [if_neg (by decide), if_neg (by decide), if_neg (by decide), if_pos rfl]
    rcases hl : lessB k2 n2 s2 k n s with ⟨x1, x2⟩
    cases x2
    · exact do16n k n s k2 n2 s2 most x1 hl w hT
    · cases x1
      · exact do16false k n s k2 n2 s2 most hl w hT
      · exact do16true k n s k2 n2 s2 most hl w hT
  rw [if_neg h16]
  by_cases h17 : op = 17
  · subst h17
    rw [if_pos rfl]; unfold baseT
    rw [if_neg (by decide), if_neg (by decide), if_pos rfl]
    rcases hl : lessB k n s k2 n2 s2 with ⟨x1, x2⟩
    cases x2
    · exact do17n k n s k2 n2 s2 most x1 hl w hT
    · cases x1
      · exact do17false k n s k2 n2 s2 most hl w hT
      · exact do17true k n s k2 n2 s2 most hl w hT
  rw [if_neg h17]
  by_cases h13 : op = 13
  · subst h13
    rw [if_pos rfl]; unfold baseT
    rw [if_neg (by decide), if_pos rfl]
    cases hr : rawB k n s k2 n2 s2
    · exact do13false k n s k2 n2 s2 most hr w hT
    · exact do13true k n s k2 n2 s2 most hr w hT
  rw [if_neg h13]
  unfold baseT
  by_cases h11 : op = 11
  · subst h11
    rw [if_pos rfl]
    exact do11 k n s k2 n2 s2 most _ _ _ _ (fun W hW => hJoin k n s k2 n2 s2 most hn hn2 hs hs2 W hW) w hT
  rw [if_neg h11]
  by_cases h12 : op = 12
  · subst h12
    rw [if_pos rfl]
    cases hr : rawB k n s k2 n2 s2
    · exact do12false k n s k2 n2 s2 most hr w hT
    · exact do12true k n s k2 n2 s2 most hr w hT
  rw [if_neg h12]
  by_cases h15 : op = 15
  · subst h15
    rw [if_pos rfl]
    rcases hl : lessB k2 n2 s2 k n s with ⟨x1, x2⟩
    cases x2
    · exact do15n k n s k2 n2 s2 most x1 hl w hT
    · cases x1
      · exact do15false k n s k2 n2 s2 most hl w hT
      · exact do15true k n s k2 n2 s2 most hl w hT
  rw [if_neg h15]
  by_cases h14 : op = 14
  · subst h14
    rw [if_pos rfl]
    rcases hl : lessB k n s k2 n2 s2 with ⟨x1, x2⟩
    cases x2
    · exact do14n k n s k2 n2 s2 most x1 hl w hT
    · cases x1
      · exact do14false k n s k2 n2 s2 most hl w hT
      · exact do14true k n s k2 n2 s2 most hl w hT
  rw [if_neg h14]
  have hsw := fun W => hSwap op op false false W (Or.inr (.inr (.inr ⟨h16, h17, h13, rfl, rfl, rfl⟩)))
  have e11 : (op == 11) = false := by simpa using h11
  have e12 : (op == 12) = false := by simpa using h12
  have e15 : (op == 15) = false := by simpa using h15
  have e14 : (op == 14) = false := by simpa using h14
  by_cases h1 : op < 1
  · rw [if_pos (Or.inl h1)]
    exact doLo k n s k2 n2 s2 op most (decide_eq_true h1) e11 e12 e15 e14 hsw w hT
  by_cases h2 : 10 < op
  · rw [if_pos (Or.inr h2)]
    exact doHi k n s k2 n2 s2 op most (decide_eq_false h1) (decide_eq_true h2) e11 e12 e15 e14 hsw w hT
  rw [if_neg (by omega)]
  exact doAr k n s k2 n2 s2 op most _ _ _ _ (decide_eq_false h1) (decide_eq_false h2) e11 e12 e15 e14 hsw (fun W hW => hArith op k n s k2 n2 s2 hn hn2 hs hs2 W hW) w hT
set_option maxHeartbeats 8000000 in
theorem one22false (k n : Int) (s : ByteArray) (hb : truthB k n = false) (w : World) (hT : Tab w) : Calls Tryd.prog 56 #[.int .i64 22, .agg #[.int .i64 k, .int .i64 n, .string s]] w fun e w' => e = .returned (.tuple #[.agg #[.int .i64 1, .int .i64 1, .string ⟨#[]⟩], .int .i64 0]) ∧ Below w.heap.size w w' := by
  have T0 := Lib.hid hT
  clear hT
  have D0 := Lib.hid (D2.start w 32 k n s)
  have X := Lib.hid (fun W => hTruth k n s W)
  rw [hb] at X
  clear hb
  go_enter Tryd.func56, Tryd.ntmps56
  go_wp2_with (first | (go_at_call 47; (with_reducible refine (X.out _).mono ?_); rintro e wn ⟨rfl, hb⟩; have D1 := Lib.hid ((D0.out).on hb); clear hb; have a0 := D1.out.A.cell 0 _ rfl; have a1 := D1.out.A.cell 1 _ rfl; have a2 := D1.out.A.cell 2 _ rfl; have fa0 := D1.out.A.frozen 0; have fa1 := D1.out.A.frozen 1; have fa2 := D1.out.A.frozen 2; have r0 := D1.out.R.cell 0 _ rfl; have r1 := D1.out.R.cell 1 _ rfl; have r2 := D1.out.R.cell 2 _ rfl; have fr0 := D1.out.R.frozen 0; have fr1 := D1.out.R.frozen 1; have fr2 := D1.out.R.frozen 2) | (go_at_call 49; (with_reducible refine (hBtrue _).mono ?_); rintro e wn ⟨rfl, hb⟩; have D2 := Lib.hid ((D1.out).on hb); clear hb; have a0 := D2.out.A.cell 0 _ rfl; have a1 := D2.out.A.cell 1 _ rfl; have a2 := D2.out.A.cell 2 _ rfl; have fa0 := D2.out.A.frozen 0; have fa1 := D2.out.A.frozen 1; have fa2 := D2.out.A.frozen 2; have r0 := D2.out.R.cell 0 _ rfl; have r1 := D2.out.R.cell 1 _ rfl; have r2 := D2.out.R.cell 2 _ rfl; have fr0 := D2.out.R.frozen 0; have fr1 := D2.out.R.frozen 1; have fr2 := D2.out.R.frozen 2))
  refine bodyPost_ret (results_ct rfl _ _ (w.heap.size + 1) 32 #[.int .i64 1, .int .i64 1, .string ⟨#[]⟩] (0, 0) _ rfl ((D2.out).put 1 1 _).1 Tryd.underlying32 rfl (by kernel_rfl)) rfl ⟨rfl, ((D2.out).put 1 1 _).2⟩
set_option maxHeartbeats 8000000 in
theorem one22true (k n : Int) (s : ByteArray) (hb : truthB k n = true) (w : World) (hT : Tab w) : Calls Tryd.prog 56 #[.int .i64 22, .agg #[.int .i64 k, .int .i64 n, .string s]] w fun e w' => e = .returned (.tuple #[.agg #[.int .i64 1, .int .i64 0, .string ⟨#[]⟩], .int .i64 0]) ∧ Below w.heap.size w w' := by
  have T0 := Lib.hid hT
  clear hT
  have D0 := Lib.hid (D2.start w 32 k n s)
  have X := Lib.hid (fun W => hTruth k n s W)
  rw [hb] at X
  clear hb
  go_enter Tryd.func56, Tryd.ntmps56
  go_wp2_with (first | (go_at_call 47; (with_reducible refine (X.out _).mono ?_); rintro e wn ⟨rfl, hb⟩; have D1 := Lib.hid ((D0.out).on hb); clear hb; have a0 := D1.out.A.cell 0 _ rfl; have a1 := D1.out.A.cell 1 _ rfl; have a2 := D1.out.A.cell 2 _ rfl; have fa0 := D1.out.A.frozen 0; have fa1 := D1.out.A.frozen 1; have fa2 := D1.out.A.frozen 2; have r0 := D1.out.R.cell 0 _ rfl; have r1 := D1.out.R.cell 1 _ rfl; have r2 := D1.out.R.cell 2 _ rfl; have fr0 := D1.out.R.frozen 0; have fr1 := D1.out.R.frozen 1; have fr2 := D1.out.R.frozen 2) | (go_at_call 49; (with_reducible refine (hBfalse _).mono ?_); rintro e wn ⟨rfl, hb⟩; have D2 := Lib.hid ((D1.out).on hb); clear hb; have a0 := D2.out.A.cell 0 _ rfl; have a1 := D2.out.A.cell 1 _ rfl; have a2 := D2.out.A.cell 2 _ rfl; have fa0 := D2.out.A.frozen 0; have fa1 := D2.out.A.frozen 1; have fa2 := D2.out.A.frozen 2; have r0 := D2.out.R.cell 0 _ rfl; have r1 := D2.out.R.cell 1 _ rfl; have r2 := D2.out.R.cell 2 _ rfl; have fr0 := D2.out.R.frozen 0; have fr1 := D2.out.R.frozen 1; have fr2 := D2.out.R.frozen 2))
  refine bodyPost_ret (results_ct rfl _ _ (w.heap.size + 1) 32 #[.int .i64 1, .int .i64 0, .string ⟨#[]⟩] (0, 0) _ rfl ((D2.out).put 1 0 _).1 Tryd.underlying32 rfl (by kernel_rfl)) rfl ⟨rfl, ((D2.out).put 1 0 _).2⟩
set_option maxHeartbeats 8000000 in
theorem one23 (n : Int) (s : ByteArray)  (w : World) (hT : Tab w) : Calls Tryd.prog 56 #[.int .i64 23, .agg #[.int .i64 3, .int .i64 n, .string s]] w fun e w' => e = .returned (.tuple #[.agg #[.int .i64 2, .int .i64 (s.size : Int), .string ⟨#[]⟩], .int .i64 0]) ∧ Below w.heap.size w w' := by
  have T0 := Lib.hid hT
  clear hT
  have D0 := Lib.hid (D2.start w 32 3 n s)
  go_enter Tryd.func56, Tryd.ntmps56
  go_wp2_with (go_at_call 53; (with_reducible refine (hInt _ _).mono ?_); rintro e wn ⟨rfl, hb⟩; have D1 := Lib.hid ((D0.out).on hb); clear hb; have a0 := D1.out.A.cell 0 _ rfl; have a1 := D1.out.A.cell 1 _ rfl; have a2 := D1.out.A.cell 2 _ rfl; have fa0 := D1.out.A.frozen 0; have fa1 := D1.out.A.frozen 1; have fa2 := D1.out.A.frozen 2; have r0 := D1.out.R.cell 0 _ rfl; have r1 := D1.out.R.cell 1 _ rfl; have r2 := D1.out.R.cell 2 _ rfl; have fr0 := D1.out.R.frozen 0; have fr1 := D1.out.R.frozen 1; have fr2 := D1.out.R.frozen 2)
  refine bodyPost_ret (results_ct rfl _ _ (w.heap.size + 1) 32 #[.int .i64 2, .int .i64 (s.size : Int), .string ⟨#[]⟩] (0, 0) _ rfl ((D1.out).put 2 _ _).1 Tryd.underlying32 rfl (by kernel_rfl)) rfl ⟨rfl, ((D1.out).put 2 _ _).2⟩
set_option maxHeartbeats 8000000 in
theorem one23n (k n : Int) (s : ByteArray) (h3 : (k == 3) = false) (w : World) (hT : Tab w) : Calls Tryd.prog 56 #[.int .i64 23, .agg #[.int .i64 k, .int .i64 n, .string s]] w fun e w' => e = .returned (.tuple #[.agg #[.int .i64 0, .int .i64 0, .string ⟨#[]⟩], .int .i64 18]) ∧ Below w.heap.size w w' := by
  have T0 := Lib.hid hT
  clear hT
  have D0 := Lib.hid (D2.start w 32 k n s)
  go_enter Tryd.func56, Tryd.ntmps56
  go_wp2
  refine bodyPost_ret (results_ct rfl _ _ (w.heap.size + 1) 32 #[.int .i64 0, .int .i64 0, .string ⟨#[]⟩] (0, 0) _ rfl (D0.out.R) Tryd.underlying32 rfl (by kernel_rfl)) rfl ⟨rfl, D0.out.bel⟩
set_option maxHeartbeats 8000000 in
theorem one20n (k n : Int) (s : ByteArray) (x1 : Int) (hx : numberF k n s = some (x1, false)) (w : World) (hT : Tab w) : Calls Tryd.prog 56 #[.int .i64 20, .agg #[.int .i64 k, .int .i64 n, .string s]] w fun e w' => e = .returned (.tuple #[.agg #[.int .i64 0, .int .i64 0, .string ⟨#[]⟩], .int .i64 18]) ∧ Below w.heap.size w w' := by
  have T0 := Lib.hid hT
  clear hT
  have D0 := Lib.hid (D2.start w 32 k n s)
  have X := Lib.hid (fun W hW => number_calls k n s _ _ W hW hx)
  clear hx
  go_enter Tryd.func56, Tryd.ntmps56
  go_wp2_with (go_at_call 52; (with_reducible refine (X.out _ (T0.out.on D0.out.bel)).mono ?_); rintro e wn ⟨rfl, hb⟩; have D1 := Lib.hid ((D0.out).on hb); clear hb; have a0 := D1.out.A.cell 0 _ rfl; have a1 := D1.out.A.cell 1 _ rfl; have a2 := D1.out.A.cell 2 _ rfl; have fa0 := D1.out.A.frozen 0; have fa1 := D1.out.A.frozen 1; have fa2 := D1.out.A.frozen 2; have r0 := D1.out.R.cell 0 _ rfl; have r1 := D1.out.R.cell 1 _ rfl; have r2 := D1.out.R.cell 2 _ rfl; have fr0 := D1.out.R.frozen 0; have fr1 := D1.out.R.frozen 1; have fr2 := D1.out.R.frozen 2)
  refine bodyPost_ret (results_ct rfl _ _ (w.heap.size + 1) 32 #[.int .i64 0, .int .i64 0, .string ⟨#[]⟩] (0, 0) _ rfl ((D1.out).put 0 0 _).1 Tryd.underlying32 rfl (by kernel_rfl)) rfl ⟨rfl, ((D1.out).put 0 0 _).2⟩
set_option maxHeartbeats 8000000 in
theorem one20 (k n : Int) (s : ByteArray) (x1 r : Int) (hx : numberF k n s = some (x1, true)) (hr : numoneF 20 x1 = some (r, 0)) (w : World) (hT : Tab w) : Calls Tryd.prog 56 #[.int .i64 20, .agg #[.int .i64 k, .int .i64 n, .string s]] w fun e w' => e = .returned (.tuple #[.agg #[.int .i64 2, .int .i64 r, .string ⟨#[]⟩], .int .i64 0]) ∧ Below w.heap.size w w' := by
  have T0 := Lib.hid hT
  clear hT
  have D0 := Lib.hid (D2.start w 32 k n s)
  have X := Lib.hid (fun W hW => number_calls k n s _ _ W hW hx)
  have Y := Lib.hid (fun W => numone_calls 20 x1 _ _ W hr)
  clear hx hr
  go_enter Tryd.func56, Tryd.ntmps56
  go_wp2_with (first | (go_at_call 52; (with_reducible refine (X.out _ (T0.out.on D0.out.bel)).mono ?_); rintro e wn ⟨rfl, hb⟩; have D1 := Lib.hid ((D0.out).on hb); clear hb; have a0 := D1.out.A.cell 0 _ rfl; have a1 := D1.out.A.cell 1 _ rfl; have a2 := D1.out.A.cell 2 _ rfl; have fa0 := D1.out.A.frozen 0; have fa1 := D1.out.A.frozen 1; have fa2 := D1.out.A.frozen 2; have r0 := D1.out.R.cell 0 _ rfl; have r1 := D1.out.R.cell 1 _ rfl; have r2 := D1.out.R.cell 2 _ rfl; have fr0 := D1.out.R.frozen 0; have fr1 := D1.out.R.frozen 1; have fr2 := D1.out.R.frozen 2) | (go_at_call 74; (with_reducible refine (Y.out _).mono ?_); rintro e wn ⟨rfl, hb⟩; have D2 := Lib.hid ((D1.out).on hb); clear hb; have a0 := D2.out.A.cell 0 _ rfl; have a1 := D2.out.A.cell 1 _ rfl; have a2 := D2.out.A.cell 2 _ rfl; have fa0 := D2.out.A.frozen 0; have fa1 := D2.out.A.frozen 1; have fa2 := D2.out.A.frozen 2; have r0 := D2.out.R.cell 0 _ rfl; have r1 := D2.out.R.cell 1 _ rfl; have r2 := D2.out.R.cell 2 _ rfl; have fr0 := D2.out.R.frozen 0; have fr1 := D2.out.R.frozen 1; have fr2 := D2.out.R.frozen 2) | (go_at_call 53; (with_reducible refine (hInt _ _).mono ?_); rintro e wn ⟨rfl, hb⟩; have D3 := Lib.hid ((D2.out).on hb); clear hb; have a0 := D3.out.A.cell 0 _ rfl; have a1 := D3.out.A.cell 1 _ rfl; have a2 := D3.out.A.cell 2 _ rfl; have fa0 := D3.out.A.frozen 0; have fa1 := D3.out.A.frozen 1; have fa2 := D3.out.A.frozen 2; have r0 := D3.out.R.cell 0 _ rfl; have r1 := D3.out.R.cell 1 _ rfl; have r2 := D3.out.R.cell 2 _ rfl; have fr0 := D3.out.R.frozen 0; have fr1 := D3.out.R.frozen 1; have fr2 := D3.out.R.frozen 2))
  refine bodyPost_ret (results_ct rfl _ _ (w.heap.size + 1) 32 #[.int .i64 2, .int .i64 r, .string ⟨#[]⟩] (0, 0) _ rfl ((D3.out).put 2 _ _).1 Tryd.underlying32 rfl (by kernel_rfl)) rfl ⟨rfl, ((D3.out).put 2 _ _).2⟩
set_option maxHeartbeats 8000000 in
theorem one21n (k n : Int) (s : ByteArray) (x1 : Int) (hx : numberF k n s = some (x1, false)) (w : World) (hT : Tab w) : Calls Tryd.prog 56 #[.int .i64 21, .agg #[.int .i64 k, .int .i64 n, .string s]] w fun e w' => e = .returned (.tuple #[.agg #[.int .i64 0, .int .i64 0, .string ⟨#[]⟩], .int .i64 18]) ∧ Below w.heap.size w w' := by
  have T0 := Lib.hid hT
  clear hT
  have D0 := Lib.hid (D2.start w 32 k n s)
  have X := Lib.hid (fun W hW => number_calls k n s _ _ W hW hx)
  clear hx
  go_enter Tryd.func56, Tryd.ntmps56
  go_wp2_with (go_at_call 52; (with_reducible refine (X.out _ (T0.out.on D0.out.bel)).mono ?_); rintro e wn ⟨rfl, hb⟩; have D1 := Lib.hid ((D0.out).on hb); clear hb; have a0 := D1.out.A.cell 0 _ rfl; have a1 := D1.out.A.cell 1 _ rfl; have a2 := D1.out.A.cell 2 _ rfl; have fa0 := D1.out.A.frozen 0; have fa1 := D1.out.A.frozen 1; have fa2 := D1.out.A.frozen 2; have r0 := D1.out.R.cell 0 _ rfl; have r1 := D1.out.R.cell 1 _ rfl; have r2 := D1.out.R.cell 2 _ rfl; have fr0 := D1.out.R.frozen 0; have fr1 := D1.out.R.frozen 1; have fr2 := D1.out.R.frozen 2)
  refine bodyPost_ret (results_ct rfl _ _ (w.heap.size + 1) 32 #[.int .i64 0, .int .i64 0, .string ⟨#[]⟩] (0, 0) _ rfl ((D1.out).put 0 0 _).1 Tryd.underlying32 rfl (by kernel_rfl)) rfl ⟨rfl, ((D1.out).put 0 0 _).2⟩
set_option maxHeartbeats 8000000 in
theorem one21 (k n : Int) (s : ByteArray) (x1 r : Int) (hx : numberF k n s = some (x1, true)) (hr : numoneF 21 x1 = some (r, 0)) (w : World) (hT : Tab w) : Calls Tryd.prog 56 #[.int .i64 21, .agg #[.int .i64 k, .int .i64 n, .string s]] w fun e w' => e = .returned (.tuple #[.agg #[.int .i64 2, .int .i64 r, .string ⟨#[]⟩], .int .i64 0]) ∧ Below w.heap.size w w' := by
  have T0 := Lib.hid hT
  clear hT
  have D0 := Lib.hid (D2.start w 32 k n s)
  have X := Lib.hid (fun W hW => number_calls k n s _ _ W hW hx)
  have Y := Lib.hid (fun W => numone_calls 21 x1 _ _ W hr)
  clear hx hr
  go_enter Tryd.func56, Tryd.ntmps56
  go_wp2_with (first | (go_at_call 52; (with_reducible refine (X.out _ (T0.out.on D0.out.bel)).mono ?_); rintro e wn ⟨rfl, hb⟩; have D1 := Lib.hid ((D0.out).on hb); clear hb; have a0 := D1.out.A.cell 0 _ rfl; have a1 := D1.out.A.cell 1 _ rfl; have a2 := D1.out.A.cell 2 _ rfl; have fa0 := D1.out.A.frozen 0; have fa1 := D1.out.A.frozen 1; have fa2 := D1.out.A.frozen 2; have r0 := D1.out.R.cell 0 _ rfl; have r1 := D1.out.R.cell 1 _ rfl; have r2 := D1.out.R.cell 2 _ rfl; have fr0 := D1.out.R.frozen 0; have fr1 := D1.out.R.frozen 1; have fr2 := D1.out.R.frozen 2) | (go_at_call 74; (with_reducible refine (Y.out _).mono ?_); rintro e wn ⟨rfl, hb⟩; have D2 := Lib.hid ((D1.out).on hb); clear hb; have a0 := D2.out.A.cell 0 _ rfl; have a1 := D2.out.A.cell 1 _ rfl; have a2 := D2.out.A.cell 2 _ rfl; have fa0 := D2.out.A.frozen 0; have fa1 := D2.out.A.frozen 1; have fa2 := D2.out.A.frozen 2; have r0 := D2.out.R.cell 0 _ rfl; have r1 := D2.out.R.cell 1 _ rfl; have r2 := D2.out.R.cell 2 _ rfl; have fr0 := D2.out.R.frozen 0; have fr1 := D2.out.R.frozen 1; have fr2 := D2.out.R.frozen 2) | (go_at_call 53; (with_reducible refine (hInt _ _).mono ?_); rintro e wn ⟨rfl, hb⟩; have D3 := Lib.hid ((D2.out).on hb); clear hb; have a0 := D3.out.A.cell 0 _ rfl; have a1 := D3.out.A.cell 1 _ rfl; have a2 := D3.out.A.cell 2 _ rfl; have fa0 := D3.out.A.frozen 0; have fa1 := D3.out.A.frozen 1; have fa2 := D3.out.A.frozen 2; have r0 := D3.out.R.cell 0 _ rfl; have r1 := D3.out.R.cell 1 _ rfl; have r2 := D3.out.R.cell 2 _ rfl; have fr0 := D3.out.R.frozen 0; have fr1 := D3.out.R.frozen 1; have fr2 := D3.out.R.frozen 2))
  refine bodyPost_ret (results_ct rfl _ _ (w.heap.size + 1) 32 #[.int .i64 2, .int .i64 r, .string ⟨#[]⟩] (0, 0) _ rfl ((D3.out).put 2 _ _).1 Tryd.underlying32 rfl (by kernel_rfl)) rfl ⟨rfl, ((D3.out).put 2 _ _).2⟩
set_option maxHeartbeats 8000000 in
theorem oneE (k n : Int) (s : ByteArray) (op : Int) (e22 : (op == 22) = false) (e23 : (op == 23) = false) (e20 : (op == 20) = false) (e21 : (op == 21) = false) (w : World) (hT : Tab w) : Calls Tryd.prog 56 #[.int .i64 op, .agg #[.int .i64 k, .int .i64 n, .string s]] w fun e w' => e = .returned (.tuple #[.agg #[.int .i64 0, .int .i64 0, .string ⟨#[]⟩], .int .i64 1]) ∧ Below w.heap.size w w' := by
  have T0 := Lib.hid hT
  clear hT
  have D0 := Lib.hid (D2.start w 32 k n s)
  go_enter Tryd.func56, Tryd.ntmps56
  go_wp2
  refine bodyPost_ret (results_ct rfl _ _ (w.heap.size + 1) 32 #[.int .i64 0, .int .i64 0, .string ⟨#[]⟩] (0, 0) _ rfl (D0.out.R) Tryd.underlying32 rfl (by kernel_rfl)) rfl ⟨rfl, D0.out.bel⟩
theorem hOne (op k n : Int) (s : ByteArray) (hs : s.size ≤ 140737488351232) (w : World) (hT : Tab w) : Calls Tryd.prog 56 #[.int .i64 op, .agg #[.int .i64 k, .int .i64 n, .string s]] w fun e w' => e = .returned (.tuple #[.agg #[.int .i64 (oneT op k n s).1, .int .i64 (oneT op k n s).2.1, .string (oneT op k n s).2.2.1], .int .i64 (oneT op k n s).2.2.2]) ∧ Below w.heap.size w w' := by
  unfold oneT
  by_cases h22 : op = 22
  · subst h22
    rw [if_pos rfl]
    cases hb : truthB k n
    · exact one22false k n s hb w hT
    · exact one22true k n s hb w hT
  rw [if_neg h22]
  by_cases h23 : op = 23
  · subst h23
    rw [if_pos rfl]
    by_cases h3 : k = 3
    · subst h3
      rw [if_pos rfl]
      exact one23 n s w hT
    · rw [if_neg h3]
      exact one23n k n s (by simpa using h3) w hT
  rw [if_neg h23]
  by_cases h20 : op = 20
  · subst h20
    rw [if_pos (by simp)]
    have hx : numberF k n s = some (numberT k n s) := by unfold numberF; rw [if_pos hs]
    rcases hv : numberT k n s with ⟨x1, x2⟩
    rw [hv] at hx
    cases x2
    · rw [if_neg (by simp)]
      exact one20n k n s x1 hx w hT
    · rw [if_pos rfl]
      exact one20 k n s x1 _ hx rfl w hT
  by_cases h21 : op = 21
  · subst h21
    rw [if_pos (by simp)]
    have hx : numberF k n s = some (numberT k n s) := by unfold numberF; rw [if_pos hs]
    rcases hv : numberT k n s with ⟨x1, x2⟩
    rw [hv] at hx
    cases x2
    · rw [if_neg (by simp)]
      exact one21n k n s x1 hx w hT
    · rw [if_pos rfl]
      exact one21 k n s x1 _ hx rfl w hT
  rw [if_neg (by omega)]
  exact oneE k n s op (by simpa using h22) (by simpa using h23) (by simpa using h20) (by simpa using h21) w hT
end Go.Proofs.YtpgpmldaggpciaaDoor.GW
