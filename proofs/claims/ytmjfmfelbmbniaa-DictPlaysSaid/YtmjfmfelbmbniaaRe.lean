/- The reference's values: strange, Own, Key. -/
import Derived.Test.YtmjfmfelbmbniaaVb
namespace Go.Proofs.Ytmjfmfelbmbniaa
open Go.RowKit Go.Maps HK
set_option linter.unusedVariables false
set_option linter.unusedSimpArgs false
theorem bad_own2 {k n : Int} {s : ByteArray} (hb : Val.strange ⟨k, n, s⟩ = true ∨ k = 0) : Val.own ⟨k, n, s⟩ = Val.nil := by
  have h7 : k < 0 ∨ 7 < k ∨ k = 0 := by
    rcases hb with hb | hb
    · unfold Val.strange at hb; simp at hb; omega
    · exact .inr (.inr hb)
  unfold Val.own
  dsimp only
  rw [if_neg (by omega), if_neg (by omega), if_neg (by omega)]
theorem rstrange_calls (x : Val) (w : World) : Calls Try.prog 151 #[x.v] w fun e w' => e = .returned (.bool x.strange) ∧ Below w.heap.size w w' := by
  obtain ⟨k, n, s⟩ := x
  by_cases h : k < 0
  · go_enter Try.func151, Try.ntmps151
    go_wp2
    go_ret
    exact ⟨by simp [Val.strange, h], (Below.refl _ _).alloc (Nat.le_refl _) _⟩
  · have h' : decide (k < 0) = false := decide_eq_false h
    go_enter Try.func151, Try.ntmps151
    go_wp2
    go_ret
    exact ⟨by simp only [Val.strange, h', Bool.false_or]; rfl, (Below.refl _ _).alloc (Nat.le_refl _) _⟩
set_option maxHeartbeats 4000000 in
theorem rown_calls (x : Val) (w : World) : Calls Try.prog 127 #[x.v] w fun e w' => e = .returned x.own.v ∧ Below w.heap.size w w' := by
  obtain ⟨k, n, s⟩ := x
  have HS := Lib.hid (fun (W : World) => rstrange_calls ⟨k, n, s⟩ W)
  have HB0 : Hid (Below w.heap.size w ((w.alloc (.cells #[.int .i64 k, .int .i64 n, .string s] 57)).alloc (.cells #[.int .i64 0, .int .i64 0, .string ⟨#[]⟩] 57))) := Lib.hid (by (repeat (first | exact Below.refl _ _ | (refine Below.alloc ?_ (by simp <;> omega) _))))
  have HBK : Hid (Blk ((w.alloc (.cells #[.int .i64 k, .int .i64 n, .string s] 57)).alloc (.cells #[.int .i64 0, .int .i64 0, .string ⟨#[]⟩] 57)) (w.heap.size + 1) 57 [.int .i64 0, .int .i64 0, .string ⟨#[]⟩]) := Lib.hid (by
    simpa using Blk.new (w.alloc (.cells #[.int .i64 k, .int .i64 n, .string s] 57)) [.int .i64 0, .int .i64 0, .string ⟨#[]⟩] 57)
  have HBX : Hid (Blk ((w.alloc (.cells #[.int .i64 k, .int .i64 n, .string s] 57)).alloc (.cells #[.int .i64 0, .int .i64 0, .string ⟨#[]⟩] 57)) w.heap.size 57 [.int .i64 k, .int .i64 n, .string s]) := Lib.hid ((Blk.new w [.int .i64 k, .int .i64 n, .string s] 57).alloc _)
  have fin : ∀ (y : Val) (w1 : World), Below w.heap.size w w1 → Blk w1 (w.heap.size + 1) 57 [.int .i64 0, .int .i64 0, .string ⟨#[]⟩] → Blk (((w1.setCell ⟨w.heap.size + 1, 0, none⟩ (.int .i64 y.k)).setCell ⟨w.heap.size + 1, 1, none⟩ (.int .i64 y.n)).setCell ⟨w.heap.size + 1, 2, none⟩ (.string y.s)) (w.heap.size + 1) 57 y.cells ∧ Below w.heap.size w (((w1.setCell ⟨w.heap.size + 1, 0, none⟩ (.int .i64 y.k)).setCell ⟨w.heap.size + 1, 1, none⟩ (.int .i64 y.n)).setCell ⟨w.heap.size + 1, 2, none⟩ (.string y.s)) := fun y w1 h1 h2 =>
    ⟨((h2.setSame 0 _).setSame 1 _).setSame 2 _, ((h1.setCell (by simp) _).setCell (by simp) _).setCell (by simp) _⟩
  have FIN := Lib.hid fin
  clear fin
  by_cases hb : Val.strange ⟨k, n, s⟩ = true ∨ k = 0
  · have ho : Val.own ⟨k, n, s⟩ = Val.nil := bad_own2 hb
    rw [ho]
    obtain ⟨bs, hbs⟩ : ∃ bs, Val.strange ⟨k, n, s⟩ = bs := ⟨_, rfl⟩
    rw [hbs] at HS
    rw [hbs] at hb
    cases bs with
    | true =>
      clear hb hbs ho
      go_enter Try.func127, Try.ntmps127
      go_wp2_with (go_at_call 151; (with_reducible refine (HS.out _).mono ?_); rintro e w1 ⟨rfl, hb⟩; have HB1 := Lib.hid (HB0.out.trans (hb.mono HB0.out.size)); have HK1 := Lib.hid (HBK.out.of (hb.block _ HBK.out.lt)); clear hb; have x0 := HK1.out.cell 0 _ rfl; have x1 := HK1.out.cell 1 _ rfl; have x2 := HK1.out.cell 2 _ rfl; have f0 := HK1.out.frozen 0; have f1 := HK1.out.frozen 1; have f2 := HK1.out.frozen 2)
      refine bodyPost_ret (results_val (x := Val.nil) rfl _ rfl (FIN.out Val.nil w1 HB1.out HK1.out).1) rfl ⟨rfl, (FIN.out Val.nil w1 HB1.out HK1.out).2⟩
    | false =>
      have hk : k = 0 := hb.resolve_left (by decide)
      subst hk
      clear hb hbs ho
      go_enter Try.func127, Try.ntmps127
      go_wp2_with (go_at_call 151; (with_reducible refine (HS.out _).mono ?_); rintro e w1 ⟨rfl, hb⟩; have HB1 := Lib.hid (HB0.out.trans (hb.mono HB0.out.size)); have HK1 := Lib.hid (HBK.out.of (hb.block _ HBK.out.lt)); have HX1 := Lib.hid (HBX.out.of (hb.block _ HBX.out.lt)); clear hb; have x0 := HK1.out.cell 0 _ rfl; have x1 := HK1.out.cell 1 _ rfl; have x2 := HK1.out.cell 2 _ rfl; have f0 := HK1.out.frozen 0; have f1 := HK1.out.frozen 1; have f2 := HK1.out.frozen 2; have y0 := HX1.out.cell 0 _ rfl)
      refine bodyPost_ret (results_val (x := Val.nil) rfl _ rfl (FIN.out Val.nil w1 HB1.out HK1.out).1) rfl ⟨rfl, (FIN.out Val.nil w1 HB1.out HK1.out).2⟩
  · have hs : Val.strange ⟨k, n, s⟩ = false := by cases h : Val.strange ⟨k, n, s⟩ with
      | false => rfl
      | true => exact absurd (.inl h) hb
    have hk0 : k ≠ 0 := fun h => hb (.inr h)
    have hk0' : (k == 0) = false := by simp [hk0]
    have hlo : 0 ≤ k ∧ k ≤ 7 := by unfold Val.strange at hs; simp at hs; omega
    rw [hs] at HS
    have HCALL := 0
    clear hb hs
    by_cases h1 : k = 1
    · subst h1
      by_cases hn : n = 0
      · subst hn
        go_enter Try.func127, Try.ntmps127
        go_wp2_with (go_at_call 151; (with_reducible refine (HS.out _).mono ?_); rintro e w1 ⟨rfl, hb⟩; have HB1 := Lib.hid (HB0.out.trans (hb.mono HB0.out.size)); have HK1 := Lib.hid (HBK.out.of (hb.block _ HBK.out.lt)); have HX1 := Lib.hid (HBX.out.of (hb.block _ HBX.out.lt)); clear hb; have x0 := HK1.out.cell 0 _ rfl; have x1 := HK1.out.cell 1 _ rfl; have x2 := HK1.out.cell 2 _ rfl; have f0 := HK1.out.frozen 0; have f1 := HK1.out.frozen 1; have f2 := HK1.out.frozen 2; have y0 := HX1.out.cell 0 _ rfl; have y1 := HX1.out.cell 1 _ rfl; have y2 := HX1.out.cell 2 _ rfl)
        refine bodyPost_ret (results_val (x := ⟨1, 0, Val.e⟩) rfl _ rfl (FIN.out ⟨1, 0, Val.e⟩ w1 HB1.out HK1.out).1) rfl ⟨rfl, (FIN.out ⟨1, 0, Val.e⟩ w1 HB1.out HK1.out).2⟩
      · have hn' : (n != 0) = true := by simp [hn]
        go_enter Try.func127, Try.ntmps127
        go_wp2_with (go_at_call 151; (with_reducible refine (HS.out _).mono ?_); rintro e w1 ⟨rfl, hb⟩; have HB1 := Lib.hid (HB0.out.trans (hb.mono HB0.out.size)); have HK1 := Lib.hid (HBK.out.of (hb.block _ HBK.out.lt)); have HX1 := Lib.hid (HBX.out.of (hb.block _ HBX.out.lt)); clear hb; have x0 := HK1.out.cell 0 _ rfl; have x1 := HK1.out.cell 1 _ rfl; have x2 := HK1.out.cell 2 _ rfl; have f0 := HK1.out.frozen 0; have f1 := HK1.out.frozen 1; have f2 := HK1.out.frozen 2; have y0 := HX1.out.cell 0 _ rfl; have y1 := HX1.out.cell 1 _ rfl; have y2 := HX1.out.cell 2 _ rfl)
        refine bodyPost_ret (results_val (x := ⟨1, 1, Val.e⟩) rfl _ rfl (FIN.out ⟨1, 1, Val.e⟩ w1 HB1.out HK1.out).1) rfl ⟨by simp [Val.own, hn], (FIN.out ⟨1, 1, Val.e⟩ w1 HB1.out HK1.out).2⟩
    · have h1' : (k == 1) = false := by simp [h1]
      by_cases h3 : k = 3
      · subst h3
        go_enter Try.func127, Try.ntmps127
        go_wp2_with (go_at_call 151; (with_reducible refine (HS.out _).mono ?_); rintro e w1 ⟨rfl, hb⟩; have HB1 := Lib.hid (HB0.out.trans (hb.mono HB0.out.size)); have HK1 := Lib.hid (HBK.out.of (hb.block _ HBK.out.lt)); have HX1 := Lib.hid (HBX.out.of (hb.block _ HBX.out.lt)); clear hb; have x0 := HK1.out.cell 0 _ rfl; have x1 := HK1.out.cell 1 _ rfl; have x2 := HK1.out.cell 2 _ rfl; have f0 := HK1.out.frozen 0; have f1 := HK1.out.frozen 1; have f2 := HK1.out.frozen 2; have y0 := HX1.out.cell 0 _ rfl; have y1 := HX1.out.cell 1 _ rfl; have y2 := HX1.out.cell 2 _ rfl)
        refine bodyPost_ret (results_val (x := ⟨3, 0, s⟩) rfl _ rfl (FIN.out ⟨3, 0, s⟩ w1 HB1.out HK1.out).1) rfl ⟨rfl, (FIN.out ⟨3, 0, s⟩ w1 HB1.out HK1.out).2⟩
      · have h3' : (k == 3) = false := by simp [h3]
        have ho : Val.own ⟨k, n, s⟩ = ⟨k, n, Val.e⟩ := by unfold Val.own; dsimp only; rw [if_neg h1, if_neg h3, if_pos (by omega)]
        rw [ho]
        clear h1 h3 hk0 hlo ho
        go_enter Try.func127, Try.ntmps127
        go_wp2_with (go_at_call 151; (with_reducible refine (HS.out _).mono ?_); rintro e w1 ⟨rfl, hb⟩; have HB1 := Lib.hid (HB0.out.trans (hb.mono HB0.out.size)); have HK1 := Lib.hid (HBK.out.of (hb.block _ HBK.out.lt)); have HX1 := Lib.hid (HBX.out.of (hb.block _ HBX.out.lt)); clear hb; have x0 := HK1.out.cell 0 _ rfl; have x1 := HK1.out.cell 1 _ rfl; have x2 := HK1.out.cell 2 _ rfl; have f0 := HK1.out.frozen 0; have f1 := HK1.out.frozen 1; have f2 := HK1.out.frozen 2; have y0 := HX1.out.cell 0 _ rfl; have y1 := HX1.out.cell 1 _ rfl; have y2 := HX1.out.cell 2 _ rfl)
        refine bodyPost_ret (results_val (x := ⟨k, n, Val.e⟩) rfl _ rfl (FIN.out ⟨k, n, Val.e⟩ w1 HB1.out HK1.out).1) rfl ⟨rfl, (FIN.out ⟨k, n, Val.e⟩ w1 HB1.out HK1.out).2⟩
set_option maxHeartbeats 4000000 in
theorem rkey_calls (x : Val) (w : World) : Calls Try.prog 126 #[x.v] w fun e w' => e = .returned (.tuple #[(keyV x).v, .int .i64 (keyE x)]) ∧ Below w.heap.size w w' := by
  have HKV : Hid (keyV x = if x.bad then Val.nil else x.own) := Lib.hid rfl
  have HKE : Hid (keyE x = if x.bad then 15 else 0) := Lib.hid rfl
  have HO := Lib.hid (fun (W : World) => rown_calls x W)
  obtain ⟨k, n, s⟩ := x
  have HS := Lib.hid (fun (W : World) => rstrange_calls ⟨k, n, s⟩ W)
  have HB0 : Hid (Below w.heap.size w ((w.alloc (.cells #[.int .i64 k, .int .i64 n, .string s] 57)).alloc (.cells #[.int .i64 0, .int .i64 0, .string ⟨#[]⟩] 57))) := Lib.hid (by (repeat (first | exact Below.refl _ _ | (refine Below.alloc ?_ (by simp <;> omega) _))))
  have HBK : Hid (Blk ((w.alloc (.cells #[.int .i64 k, .int .i64 n, .string s] 57)).alloc (.cells #[.int .i64 0, .int .i64 0, .string ⟨#[]⟩] 57)) (w.heap.size + 1) 57 [.int .i64 0, .int .i64 0, .string ⟨#[]⟩]) := Lib.hid (by
    simpa using Blk.new (w.alloc (.cells #[.int .i64 k, .int .i64 n, .string s] 57)) [.int .i64 0, .int .i64 0, .string ⟨#[]⟩] 57)
  have HBX : Hid (Blk ((w.alloc (.cells #[.int .i64 k, .int .i64 n, .string s] 57)).alloc (.cells #[.int .i64 0, .int .i64 0, .string ⟨#[]⟩] 57)) w.heap.size 57 [.int .i64 k, .int .i64 n, .string s]) := Lib.hid ((Blk.new w [.int .i64 k, .int .i64 n, .string s] 57).alloc _)
  have fin : ∀ (y : Val) (w1 : World), Below w.heap.size w w1 → Blk w1 (w.heap.size + 1) 57 [.int .i64 0, .int .i64 0, .string ⟨#[]⟩] → Blk (((w1.setCell ⟨w.heap.size + 1, 0, none⟩ (.int .i64 y.k)).setCell ⟨w.heap.size + 1, 1, none⟩ (.int .i64 y.n)).setCell ⟨w.heap.size + 1, 2, none⟩ (.string y.s)) (w.heap.size + 1) 57 y.cells ∧ Below w.heap.size w (((w1.setCell ⟨w.heap.size + 1, 0, none⟩ (.int .i64 y.k)).setCell ⟨w.heap.size + 1, 1, none⟩ (.int .i64 y.n)).setCell ⟨w.heap.size + 1, 2, none⟩ (.string y.s)) := fun y w1 h1 h2 =>
    ⟨((h2.setSame 0 _).setSame 1 _).setSame 2 _, ((h1.setCell (by simp) _).setCell (by simp) _).setCell (by simp) _⟩
  have FIN := Lib.hid fin
  clear fin
  cases hs : Val.strange ⟨k, n, s⟩ with
  | true =>
    have hb : Val.bad ⟨k, n, s⟩ = true := by unfold Val.bad; rw [hs]; simp
    rw [HKV.out, HKE.out, hb, if_pos rfl, if_pos rfl]
    rw [hs] at HS
    clear hs hb
    go_enter Try.func126, Try.ntmps126
    go_wp2_with (go_at_call 151; (with_reducible refine (HS.out _).mono ?_); rintro e w1 ⟨rfl, hb⟩; have HB1 := Lib.hid (HB0.out.trans (hb.mono HB0.out.size)); have HK1 := Lib.hid (HBK.out.of (hb.block _ HBK.out.lt)); have HX1 := Lib.hid (HBX.out.of (hb.block _ HBX.out.lt)); clear hb; have x0 := HK1.out.cell 0 _ rfl; have x1 := HK1.out.cell 1 _ rfl; have x2 := HK1.out.cell 2 _ rfl; have f0 := HK1.out.frozen 0; have f1 := HK1.out.frozen 1; have f2 := HK1.out.frozen 2; have y0 := HX1.out.cell 0 _ rfl; have y1 := HX1.out.cell 1 _ rfl; have y2 := HX1.out.cell 2 _ rfl)
    refine bodyPost_ret (results_val2 (x := Val.nil) rfl _ rfl rfl (FIN.out Val.nil w1 HB1.out HK1.out).1) rfl ⟨rfl, (FIN.out Val.nil w1 HB1.out HK1.out).2⟩
  | false =>
    rw [hs] at HS
    by_cases hk : k = 0
    · subst hk
      have hb : Val.bad ⟨0, n, s⟩ = true := by unfold Val.bad; simp
      rw [HKV.out, HKE.out, hb, if_pos rfl, if_pos rfl]
      clear hs hb
      go_enter Try.func126, Try.ntmps126
      go_wp2_with (go_at_call 151; (with_reducible refine (HS.out _).mono ?_); rintro e w1 ⟨rfl, hb⟩; have HB1 := Lib.hid (HB0.out.trans (hb.mono HB0.out.size)); have HK1 := Lib.hid (HBK.out.of (hb.block _ HBK.out.lt)); have HX1 := Lib.hid (HBX.out.of (hb.block _ HBX.out.lt)); clear hb; have x0 := HK1.out.cell 0 _ rfl; have x1 := HK1.out.cell 1 _ rfl; have x2 := HK1.out.cell 2 _ rfl; have f0 := HK1.out.frozen 0; have f1 := HK1.out.frozen 1; have f2 := HK1.out.frozen 2; have y0 := HX1.out.cell 0 _ rfl; have y1 := HX1.out.cell 1 _ rfl; have y2 := HX1.out.cell 2 _ rfl)
      refine bodyPost_ret (results_val2 (x := Val.nil) rfl _ rfl rfl (FIN.out Val.nil w1 HB1.out HK1.out).1) rfl ⟨rfl, (FIN.out Val.nil w1 HB1.out HK1.out).2⟩
    · have hb : Val.bad ⟨k, n, s⟩ = false := by unfold Val.bad; rw [hs, decide_eq_false hk]; rfl
      have hk' : (k == 0) = false := by simp [hk]
      rw [HKV.out, HKE.out, hb, if_neg (by decide), if_neg (by decide)]
      clear hs hb hk
      generalize Val.own ⟨k, n, s⟩ = o at *
      obtain ⟨o1, o2, o3⟩ := o
      go_enter Try.func126, Try.ntmps126
      go_wp2_with (first | (go_at_call 151; (with_reducible refine (HS.out _).mono ?_); rintro e w1 ⟨rfl, hb⟩; have HB1 := Lib.hid (HB0.out.trans (hb.mono HB0.out.size)); have HK1 := Lib.hid (HBK.out.of (hb.block _ HBK.out.lt)); have HX1 := Lib.hid (HBX.out.of (hb.block _ HBX.out.lt)); clear hb; have x0 := HK1.out.cell 0 _ rfl; have x1 := HK1.out.cell 1 _ rfl; have x2 := HK1.out.cell 2 _ rfl; have f0 := HK1.out.frozen 0; have f1 := HK1.out.frozen 1; have f2 := HK1.out.frozen 2; have y0 := HX1.out.cell 0 _ rfl; have y1 := HX1.out.cell 1 _ rfl; have y2 := HX1.out.cell 2 _ rfl) | (go_at_call 127; (with_reducible refine (HO.out _).mono ?_); rintro e w2 ⟨rfl, hb⟩; have HB2 := Lib.hid (HB1.out.trans (hb.mono HB1.out.size)); have HK2 := Lib.hid (HK1.out.of (hb.block _ HK1.out.lt)); clear hb; have z0 := HK2.out.cell 0 _ rfl; have z1 := HK2.out.cell 1 _ rfl; have z2 := HK2.out.cell 2 _ rfl; have g0 := HK2.out.frozen 0; have g1 := HK2.out.frozen 1; have g2 := HK2.out.frozen 2))
      refine bodyPost_ret (results_val2 (x := ⟨o1, o2, o3⟩) rfl _ rfl rfl (FIN.out ⟨o1, o2, o3⟩ w2 HB2.out HK2.out).1) rfl ⟨rfl, (FIN.out ⟨o1, o2, o3⟩ w2 HB2.out HK2.out).2⟩
end Go.Proofs.Ytmjfmfelbmbniaa
