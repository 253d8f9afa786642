/- Values (api.Value) as layers 13 to 16 use them: three fields; what Own and Key make of them. -/
import Derived.Test.YtmjfmfelbmbniaaStays
namespace Go.Proofs.Ytmjfmfelbmbniaa
open Go.RowKit Go.Maps HK
set_option linter.unusedVariables false
set_option linter.unusedSimpArgs false
structure Val where
  k : Int
  n : Int
  s : ByteArray
deriving DecidableEq
namespace Val
abbrev v (x : Val) : Value := .agg #[.int .i64 x.k, .int .i64 x.n, .string x.s]
abbrev cells (x : Val) : List Value := [.int .i64 x.k, .int .i64 x.n, .string x.s]
abbrev e : ByteArray := ⟨#[]⟩
abbrev nil : Val := ⟨0, 0, e⟩
abbrev strange (x : Val) : Bool := decide (x.k < 0) || decide (7 < x.k)
def own (x : Val) : Val :=
  if x.k = 1 then ⟨1, if x.n = 0 then 0 else 1, e⟩
  else if x.k = 3 then ⟨3, 0, x.s⟩
  else if x.k = 2 ∨ x.k = 4 ∨ x.k = 5 ∨ x.k = 6 ∨ x.k = 7 then ⟨x.k, x.n, e⟩
  else nil
def bad (x : Val) : Bool := decide (x.k = 0) || x.strange
def lives (x : Val) : Int := if x.k = 0 then 0 else 1
end Val

theorem ofInt_calls (n : Int) (w : World) : Calls Try.prog 50 #[.int .i64 n] w fun e w' => e = .returned (Val.v ⟨2, n, Val.e⟩) ∧ Below w.heap.size w w' := by
  go_enter Try.func50, Try.ntmps50
  go_wp2
  refine bodyPost_ret (v := Val.v ⟨2, n, Val.e⟩) (by simp [results, Try.results50, go_sem]) rfl ⟨rfl, ?_⟩
  (repeat (first | exact Below.refl _ _ | (refine Below.alloc ?_ (by simp <;> omega) _) | (refine Below.setCell ?_ (by simp <;> omega) _)))
theorem ofStr_calls (s : ByteArray) (w : World) : Calls Try.prog 54 #[.string s] w fun e w' => e = .returned (Val.v ⟨3, 0, s⟩) ∧ Below w.heap.size w w' := by
  go_enter Try.func54, Try.ntmps54
  go_wp2
  refine bodyPost_ret (v := Val.v ⟨3, 0, s⟩) (by simp [results, Try.results54, go_sem]) rfl ⟨rfl, ?_⟩
  (repeat (first | exact Below.refl _ _ | (refine Below.alloc ?_ (by simp <;> omega) _) | (refine Below.setCell ?_ (by simp <;> omega) _)))
theorem ofBool_calls (b : Bool) (w : World) : Calls Try.prog 117 #[.bool b] w fun e w' => e = .returned (Val.v ⟨1, if b then 1 else 0, Val.e⟩) ∧ Below w.heap.size w w' := by
  cases b
  · go_enter Try.func117, Try.ntmps117
    go_wp2
    refine bodyPost_ret (v := Val.v ⟨1, 0, Val.e⟩) (by simp [results, Try.results117, go_sem]) rfl ⟨rfl, ?_⟩
    (repeat (first | exact Below.refl _ _ | (refine Below.alloc ?_ (by simp <;> omega) _) | (refine Below.setCell ?_ (by simp <;> omega) _)))
  · go_enter Try.func117, Try.ntmps117
    go_wp2
    refine bodyPost_ret (v := Val.v ⟨1, 1, Val.e⟩) (by simp [results, Try.results117, go_sem]) rfl ⟨rfl, ?_⟩
    (repeat (first | exact Below.refl _ _ | (refine Below.alloc ?_ (by simp <;> omega) _) | (refine Below.setCell ?_ (by simp <;> omega) _)))
theorem strange_calls (x : Val) (w : World) : Calls Try.prog 107 #[x.v] w fun e w' => e = .returned (.bool x.strange) ∧ Below w.heap.size w w' := by
  obtain ⟨k, n, s⟩ := x
  by_cases h : k < 0
  · go_enter Try.func107, Try.ntmps107
    go_wp2
    go_ret
    exact ⟨by simp [Val.strange, h], by (repeat (first | exact Below.refl _ _ | (refine Below.alloc ?_ (by simp <;> omega) _) | (refine Below.setCell ?_ (by simp <;> omega) _)))⟩
  · have h' : decide (k < 0) = false := decide_eq_false h
    go_enter Try.func107, Try.ntmps107
    go_wp2
    go_ret
    exact ⟨by simp only [Val.strange, h', Bool.false_or]; rfl, by (repeat (first | exact Below.refl _ _ | (refine Below.alloc ?_ (by simp <;> omega) _) | (refine Below.setCell ?_ (by simp <;> omega) _)))⟩
theorem lives_calls (x : Val) (w : World) : Calls Try.prog 109 #[x.v] w fun e w' => e = .returned (.int .i64 x.lives) ∧ Below w.heap.size w w' := by
  obtain ⟨k, n, s⟩ := x
  by_cases h : k = 0
  · subst h
    go_enter Try.func109, Try.ntmps109
    go_wp2
    go_ret
    exact ⟨rfl, by (repeat (first | exact Below.refl _ _ | (refine Below.alloc ?_ (by simp <;> omega) _) | (refine Below.setCell ?_ (by simp <;> omega) _)))⟩
  · have h' : decide (k = 0) = false := decide_eq_false h
    go_enter Try.func109, Try.ntmps109
    go_wp2
    go_ret
    exact ⟨by simp [Val.lives, h], by (repeat (first | exact Below.refl _ _ | (refine Below.alloc ?_ (by simp <;> omega) _) | (refine Below.setCell ?_ (by simp <;> omega) _)))⟩
/-- A variable of three cells behind a call. -/
theorem var_kept {w w' : World} {b : Nat} {cs : List Value} (h : Blk w b 57 cs) (hb : Below w.heap.size w w') : Blk w' b 57 cs := h.of (hb.block _ h.lt)
/-- A result that lies in a variable of three cells. -/
theorem results_val {fn : Func} {t : Tmp} {b : Nat} {x : Val} (hr : fn.results = #[.cell t 57]) (tmps : Array Value) (ht : tmps.getD t undef = .pointer (some ⟨b, 0, none⟩)) {w : World} (h : Blk w b 57 x.cells) : (results fn tmps).run Try.prog w = .ok x.v w := by
  have x0 := h.cell 0 _ rfl
  have x1 := h.cell 1 _ rfl
  have x2 := h.cell 2 _ rfl
  have ht' : tmps[t]?.getD undef = .pointer (some ⟨b, 0, none⟩) := (RG.getD_form ⟨tmps, []⟩ t).symm.trans ht
  simp [results, hr, ht', go_sem, x0, x1, x2]
set_option maxHeartbeats 2000000 in
theorem own_calls (x : Val) (w : World) : Calls Try.prog 59 #[x.v] w fun e w' => e = .returned x.own.v ∧ Below w.heap.size w w' := by
  obtain ⟨k, n, s⟩ := x
  have hbk : Blk ((w.alloc (.cells #[.int .i64 k, .int .i64 n, .string s] 57)).alloc (.cells #[.int .i64 0, .int .i64 0, .string ⟨#[]⟩] 57)) (w.heap.size + 1) 57 [.int .i64 0, .int .i64 0, .string ⟨#[]⟩] := by
    simpa using Blk.new (w.alloc (.cells #[.int .i64 k, .int .i64 n, .string s] 57)) [.int .i64 0, .int .i64 0, .string ⟨#[]⟩] 57
  have HBK := Lib.hid hbk
  have HB0 : Hid (Below w.heap.size w ((w.alloc (.cells #[.int .i64 k, .int .i64 n, .string s] 57)).alloc (.cells #[.int .i64 0, .int .i64 0, .string ⟨#[]⟩] 57))) := Lib.hid (by (repeat (first | exact Below.refl _ _ | (refine Below.alloc ?_ (by simp <;> omega) _) | (refine Below.setCell ?_ (by simp <;> omega) _))))
  clear hbk
  by_cases h1 : k = 1
  · subst h1
    have HB := Lib.hid (fun (b : Bool) (W : World) => ofBool_calls b W)
    by_cases hn : n = 0
    · subst hn
      go_enter Try.func59, Try.ntmps59
      go_wp2_with (go_at_call 117; (with_reducible refine (HB.out _ _).mono ?_); rintro e w' ⟨rfl, hb⟩; have hk := var_kept HBK.out hb; have HKK := Lib.hid hk; have x0 := hk.cell 0 _ rfl; have x1 := hk.cell 1 _ rfl; have x2 := hk.cell 2 _ rfl; have f0 := hk.frozen 0; have f1 := hk.frozen 1; have f2 := hk.frozen 2; have HBL := Lib.hid (HB0.out.trans (hb.mono HB0.out.size)); clear hk hb)
      refine bodyPost_ret (results_val (x := ⟨1, 0, Val.e⟩) rfl _ rfl (((HKK.out.setSame 0 _).setSame 1 _).setSame 2 _)) rfl ⟨rfl, ?_⟩
      exact ((HBL.out.setCell (by simp) _).setCell (by simp) _).setCell (by simp) _
    · have hn' : (n != 0) = true := by simp [hn]
      go_enter Try.func59, Try.ntmps59
      go_wp2_with (go_at_call 117; (with_reducible refine (HB.out _ _).mono ?_); rintro e w' ⟨rfl, hb⟩; have hk := var_kept HBK.out hb; have HKK := Lib.hid hk; have x0 := hk.cell 0 _ rfl; have x1 := hk.cell 1 _ rfl; have x2 := hk.cell 2 _ rfl; have f0 := hk.frozen 0; have f1 := hk.frozen 1; have f2 := hk.frozen 2; have HBL := Lib.hid (HB0.out.trans (hb.mono HB0.out.size)); clear hk hb)
      rw [hn'] at *
      refine bodyPost_ret (results_val (x := ⟨1, 1, Val.e⟩) rfl _ rfl (((HKK.out.setSame 0 _).setSame 1 _).setSame 2 _)) rfl ⟨by simp [Val.own, hn], ?_⟩
      exact ((HBL.out.setCell (by simp) _).setCell (by simp) _).setCell (by simp) _
  have h1' : decide (k = 1) = false := decide_eq_false h1
  by_cases h3 : k = 3
  · subst h3
    have HB := Lib.hid (fun (s : ByteArray) (W : World) => ofStr_calls s W)
    clear h1
    go_enter Try.func59, Try.ntmps59
    go_wp2_with (go_at_call 54; (with_reducible refine (HB.out _ _).mono ?_); rintro e w' ⟨rfl, hb⟩; have hk := var_kept HBK.out hb; have HKK := Lib.hid hk; have x0 := hk.cell 0 _ rfl; have x1 := hk.cell 1 _ rfl; have x2 := hk.cell 2 _ rfl; have f0 := hk.frozen 0; have f1 := hk.frozen 1; have f2 := hk.frozen 2; have HBL := Lib.hid (HB0.out.trans (hb.mono HB0.out.size)); clear hk hb)
    refine bodyPost_ret (results_val (x := ⟨3, 0, s⟩) rfl _ rfl (((HKK.out.setSame 0 _).setSame 1 _).setSame 2 _)) rfl ⟨rfl, ?_⟩
    exact ((HBL.out.setCell (by simp) _).setCell (by simp) _).setCell (by simp) _
  have h3' : decide (k = 3) = false := decide_eq_false h3
  by_cases hm : k = 2 ∨ k = 4 ∨ k = 5 ∨ k = 6 ∨ k = 7
  · have he : Val.own ⟨k, n, s⟩ = ⟨k, n, Val.e⟩ := by unfold Val.own; rw [if_neg h1, if_neg h3, if_pos hm]
    rw [he]
    rcases hm with rfl | rfl | rfl | rfl | rfl
    all_goals
      clear h1 h3 he h1' h3' HBK HB0
      go_enter Try.func59, Try.ntmps59
      go_wp2
      refine bodyPost_ret (v := Val.v ⟨_, n, Val.e⟩) (by simp [results, Try.results59, go_sem]) rfl ⟨rfl, ?_⟩
      (repeat (first | exact Below.refl _ _ | (refine Below.alloc ?_ (by simp <;> omega) _) | (refine Below.setCell ?_ (by simp <;> omega) _)))
  · have he : Val.own ⟨k, n, s⟩ = Val.nil := by unfold Val.own; rw [if_neg h1, if_neg h3, if_neg hm]
    rw [he]
    have g2 : (k == 2) = false := by simp; omega
    have g4 : (k == 4) = false := by simp; omega
    have g5 : (k == 5) = false := by simp; omega
    have g6 : (k == 6) = false := by simp; omega
    have g7 : (k == 7) = false := by simp; omega
    have g1 : (k == 1) = false := by simp [h1]
    have g3 : (k == 3) = false := by simp [h3]
    clear h1 h3 hm he HBK HB0 h1' h3'
    go_enter Try.func59, Try.ntmps59
    go_wp2
    refine bodyPost_ret (v := Val.v Val.nil) (by simp [results, Try.results59, go_sem]) rfl ⟨rfl, ?_⟩
    (repeat (first | exact Below.refl _ _ | (refine Below.alloc ?_ (by simp <;> omega) _) | (refine Below.setCell ?_ (by simp <;> omega) _)))
theorem results_val2 {fn : Func} {t u : Tmp} {b : Nat} {x : Val} {y : Value} (hr : fn.results = #[.cell t 57, .tmp u]) (tmps : Array Value) (ht : tmps.getD t undef = .pointer (some ⟨b, 0, none⟩)) (hu : tmps.getD u undef = y) {w : World} (h : Blk w b 57 x.cells) : (results fn tmps).run Try.prog w = .ok (.tuple #[x.v, y]) w := by
  have x0 := h.cell 0 _ rfl
  have x1 := h.cell 1 _ rfl
  have x2 := h.cell 2 _ rfl
  have ht' : tmps[t]?.getD undef = .pointer (some ⟨b, 0, none⟩) := (RG.getD_form ⟨tmps, []⟩ t).symm.trans ht
  have hu' : tmps[u]?.getD undef = y := (RG.getD_form ⟨tmps, []⟩ u).symm.trans hu
  simp [results, hr, ht', hu', go_sem, x0, x1, x2]
/-- What Key makes: the key, and the error's number. -/
def keyV (x : Val) : Val := if x.bad then Val.nil else x.own
def keyE (x : Val) : Int := if x.bad then 15 else 0
set_option maxHeartbeats 2000000 in
theorem key_calls (x : Val) (w : World) : Calls Try.prog 43 #[x.v] w fun e w' => e = .returned (.tuple #[(keyV x).v, .int .i64 (keyE x)]) ∧ Below w.heap.size w w' := by
  obtain ⟨k, n, s⟩ := x
  have hbk : Blk ((w.alloc (.cells #[.int .i64 k, .int .i64 n, .string s] 57)).alloc (.cells #[.int .i64 0, .int .i64 0, .string ⟨#[]⟩] 57)) (w.heap.size + 1) 57 [.int .i64 0, .int .i64 0, .string ⟨#[]⟩] := by
    simpa using Blk.new (w.alloc (.cells #[.int .i64 k, .int .i64 n, .string s] 57)) [.int .i64 0, .int .i64 0, .string ⟨#[]⟩] 57
  have hbx : Blk ((w.alloc (.cells #[.int .i64 k, .int .i64 n, .string s] 57)).alloc (.cells #[.int .i64 0, .int .i64 0, .string ⟨#[]⟩] 57)) w.heap.size 57 [.int .i64 k, .int .i64 n, .string s] := (Blk.new w [.int .i64 k, .int .i64 n, .string s] 57).alloc _
  have HBK := Lib.hid hbk; have HBX := Lib.hid hbx
  have HB0 : Hid (Below w.heap.size w ((w.alloc (.cells #[.int .i64 k, .int .i64 n, .string s] 57)).alloc (.cells #[.int .i64 0, .int .i64 0, .string ⟨#[]⟩] 57))) := Lib.hid (by (repeat (first | exact Below.refl _ _ | (refine Below.alloc ?_ (by simp <;> omega) _) | (refine Below.setCell ?_ (by simp <;> omega) _))))
  clear hbk hbx
  have HS := Lib.hid (fun (W : World) => strange_calls ⟨k, n, s⟩ W)
  have HO := Lib.hid (fun (W : World) => own_calls ⟨k, n, s⟩ W)
  by_cases h0 : k = 0
  · subst h0
    go_enter Try.func43, Try.ntmps43
    go_wp2_with fail
    exact bodyPost_ret (results_val2 (x := Val.nil) rfl _ rfl rfl HBK.out) rfl ⟨rfl, HB0.out⟩
  · have g0 : (k == 0) = false := by simp [h0]
    cases hst : Val.strange ⟨k, n, s⟩ with
    | true =>
      have HST := Lib.hid hst
      rw [hst] at HS
      clear hst h0
      go_enter Try.func43, Try.ntmps43
      go_wp2_with (go_at_call 107; (with_reducible refine (HS.out _).mono ?_); rintro e w' ⟨rfl, hb⟩; have hk := var_kept HBK.out hb; have HKK := Lib.hid hk; have x0 := hk.cell 0 _ rfl; have x1 := hk.cell 1 _ rfl; have x2 := hk.cell 2 _ rfl; have f0 := hk.frozen 0; have f1 := hk.frozen 1; have f2 := hk.frozen 2; have HBL := Lib.hid (HB0.out.trans (hb.mono HB0.out.size)); clear hk hb)
      exact bodyPost_ret (results_val2 (x := Val.nil) rfl _ rfl rfl (((HKK.out.setSame 0 _).setSame 1 _).setSame 2 _)) rfl ⟨by simp [keyV, keyE, Val.bad, HST.out], ((HBL.out.setCell (by simp) _).setCell (by simp) _).setCell (by simp) _⟩
    | false =>
      have HST := Lib.hid hst
      have hbad : Val.bad ⟨k, n, s⟩ = false := by unfold Val.bad; rw [hst, decide_eq_false h0]; rfl
      have HBAD := Lib.hid hbad
      rw [hst] at HS
      clear hst h0 hbad
      go_enter Try.func43, Try.ntmps43
      go_wp2_with (first
        | (go_at_call 107; (with_reducible refine (HS.out _).mono ?_); rintro e w' ⟨rfl, hb⟩; have hk := var_kept HBK.out hb; have HKK := Lib.hid hk; have hkx := var_kept HBX.out hb; have HKX := Lib.hid hkx; have y0 := hkx.cell 0 _ rfl; have y1 := hkx.cell 1 _ rfl; have y2 := hkx.cell 2 _ rfl; have HBL := Lib.hid (HB0.out.trans (hb.mono HB0.out.size)); clear hk hkx hb)
        | (go_at_call 59; (with_reducible refine (HO.out _).mono ?_); rintro e w'' ⟨rfl, hb⟩; have hk := var_kept HKK.out hb; have HKK2 := Lib.hid hk; have x0 := hk.cell 0 _ rfl; have x1 := hk.cell 1 _ rfl; have x2 := hk.cell 2 _ rfl; have f0 := hk.frozen 0; have f1 := hk.frozen 1; have f2 := hk.frozen 2; have HBL2 := Lib.hid (HBL.out.trans (hb.mono HBL.out.size)); clear hk hb))
      exact bodyPost_ret (results_val2 (x := Val.own ⟨k, n, s⟩) rfl _ rfl rfl (((HKK2.out.setSame 0 _).setSame 1 _).setSame 2 _)) rfl ⟨by simp [keyV, keyE, HBAD.out], ((HBL2.out.setCell (by simp) _).setCell (by simp) _).setCell (by simp) _⟩
end Go.Proofs.Ytmjfmfelbmbniaa
