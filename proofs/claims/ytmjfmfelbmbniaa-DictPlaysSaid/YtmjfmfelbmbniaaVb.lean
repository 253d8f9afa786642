/- Values: the type's name, whether two are one. -/
import Derived.Test.YtmjfmfelbmbniaaVa
import Derived.Test.YtmjfmfelbmbniaaQB
namespace Go.Proofs.Ytmjfmfelbmbniaa
open Go.RowKit Go.Maps HK
set_option linter.unusedVariables false
set_option linter.unusedSimpArgs false
def typeS (k : Int) : ByteArray := if k = 0 then ⟨#[110, 105, 108]⟩ else if k = 1 then ⟨#[98, 111, 111, 108, 101, 97, 110]⟩ else if k = 2 then ⟨#[110, 117, 109, 98, 101, 114]⟩ else if k = 3 then ⟨#[115, 116, 114, 105, 110, 103]⟩
  else if k = 4 then ⟨#[116, 97, 98, 108, 101]⟩ else if k = 5 then ⟨#[102, 117, 110, 99, 116, 105, 111, 110]⟩ else if k = 6 then ⟨#[102, 117, 110, 99, 116, 105, 111, 110]⟩ else if k = 7 then ⟨#[116, 104, 114, 101, 97, 100]⟩ else ⟨#[]⟩
set_option maxHeartbeats 2000000 in
set_option maxRecDepth 20000 in
theorem type_calls (x : Val) (w : World) : Calls Try.prog 57 #[x.v] w fun e w' => e = .returned (.string (typeS x.k)) ∧ Below w.heap.size w w' := by
  obtain ⟨k, n, s⟩ := x
  by_cases hm : k = 0 ∨ k = 1 ∨ k = 2 ∨ k = 3 ∨ k = 4 ∨ k = 5 ∨ k = 6 ∨ k = 7
  · rcases hm with rfl | rfl | rfl | rfl | rfl | rfl | rfl | rfl
    all_goals
      go_enter Try.func57, Try.ntmps57
      go_wp2_with fail
      go_ret
      exact ⟨rfl, (Below.refl _ _).alloc (Nat.le_refl _) _⟩
  · have he : typeS k = ⟨#[]⟩ := by
      unfold typeS
      repeat rw [if_neg (by omega)]
    have g0 : (k == 0) = false := by simp; omega
    have g1 : (k == 1) = false := by simp; omega
    have g2 : (k == 2) = false := by simp; omega
    have g3 : (k == 3) = false := by simp; omega
    have g4 : (k == 4) = false := by simp; omega
    have g5 : (k == 5) = false := by simp; omega
    have g6 : (k == 6) = false := by simp; omega
    have g7 : (k == 7) = false := by simp; omega
    rw [he]
    clear he hm
    go_enter Try.func57, Try.ntmps57
    go_wp2_with fail
    go_ret
    exact ⟨rfl, (Below.refl _ _).alloc (Nat.le_refl _) _⟩
def rawV (x y : Val) : Bool := !x.strange && (x.k == y.k) && decide (x.own = y.own)
/-- Two values of one kind, or not: as the comparison of their cells. -/
theorem val_ne {a b : Val} (h : a ≠ b) : (a.k == b.k) = false ∨ a.k = b.k ∧ ((a.n == b.n) = false ∨ a.n = b.n ∧ (a.s.toList == b.s.toList) = false) := by
  obtain ⟨a1, a2, a3⟩ := a
  obtain ⟨b1, b2, b3⟩ := b
  by_cases e1 : a1 = b1
  · subst e1
    by_cases e2 : a2 = b2
    · subst e2
      exact .inr ⟨rfl, .inr ⟨rfl, str_ne _ _ (fun e => h (by have e' : a3 = b3 := e; rw [e']))⟩⟩
    · exact .inr ⟨rfl, .inl (by simp [e2])⟩
  · exact .inl (by simp [e1])
set_option maxHeartbeats 2000000 in
set_option maxRecDepth 20000 in
theorem raw_calls (x y : Val) (w : World) : Calls Try.prog 58 #[x.v, y.v] w fun e w' => e = .returned (.bool (rawV x y)) ∧ Below w.heap.size w w' := by
  have HS := Lib.hid (fun (W : World) => strange_calls x W)
  have HX := Lib.hid (fun (W : World) => own_calls x W)
  have HY := Lib.hid (fun (W : World) => own_calls y W)
  have hbx : Blk ((w.alloc (.cells #[.int .i64 x.k, .int .i64 x.n, .string x.s] 57)).alloc (.cells #[.int .i64 y.k, .int .i64 y.n, .string y.s] 57)) w.heap.size 57 [.int .i64 x.k, .int .i64 x.n, .string x.s] := (Blk.new w [.int .i64 x.k, .int .i64 x.n, .string x.s] 57).alloc _
  have hby : Blk ((w.alloc (.cells #[.int .i64 x.k, .int .i64 x.n, .string x.s] 57)).alloc (.cells #[.int .i64 y.k, .int .i64 y.n, .string y.s] 57)) (w.heap.size + 1) 57 [.int .i64 y.k, .int .i64 y.n, .string y.s] := by
    simpa using Blk.new (w.alloc (.cells #[.int .i64 x.k, .int .i64 x.n, .string x.s] 57)) [.int .i64 y.k, .int .i64 y.n, .string y.s] 57
  have hb0 : Below w.heap.size w ((w.alloc (.cells #[.int .i64 x.k, .int .i64 x.n, .string x.s] 57)).alloc (.cells #[.int .i64 y.k, .int .i64 y.n, .string y.s] 57)) := by (repeat (first | exact Below.refl _ _ | (refine Below.alloc ?_ (by simp <;> omega) _)))
  have HBX := Lib.hid hbx
  have HBY := Lib.hid hby
  have HB0 := Lib.hid hb0
  have HR : Hid (rawV x y = (!x.strange && (x.k == y.k) && decide (x.own = y.own))) := Lib.hid rfl
  clear hbx hby hb0
  obtain ⟨x1, x2, x3⟩ := x
  obtain ⟨y1, y2, y3⟩ := y
  generalize hw1 : ((w.alloc (.cells #[.int .i64 x1, .int .i64 x2, .string x3] 57)).alloc (.cells #[.int .i64 y1, .int .i64 y2, .string y3] 57)) = w1 at *
  have HW1 := Lib.hid hw1
  have q0 : ∀ W, Below w1.heap.size w1 W → W.cell? ⟨w.heap.size, 0, none⟩ = some (.int .i64 x1) := fun W hW => (HBX.out.of (hW.block _ HBX.out.lt)).cell 0 _ rfl
  have q1 : ∀ W, Below w1.heap.size w1 W → W.cell? ⟨w.heap.size, 1, none⟩ = some (.int .i64 x2) := fun W hW => (HBX.out.of (hW.block _ HBX.out.lt)).cell 1 _ rfl
  have q2 : ∀ W, Below w1.heap.size w1 W → W.cell? ⟨w.heap.size, 2, none⟩ = some (.string x3) := fun W hW => (HBX.out.of (hW.block _ HBX.out.lt)).cell 2 _ rfl
  have p0 : ∀ W, Below w1.heap.size w1 W → W.cell? ⟨w.heap.size + 1, 0, none⟩ = some (.int .i64 y1) := fun W hW => (HBY.out.of (hW.block _ HBY.out.lt)).cell 0 _ rfl
  have p1 : ∀ W, Below w1.heap.size w1 W → W.cell? ⟨w.heap.size + 1, 1, none⟩ = some (.int .i64 y2) := fun W hW => (HBY.out.of (hW.block _ HBY.out.lt)).cell 1 _ rfl
  have p2 : ∀ W, Below w1.heap.size w1 W → W.cell? ⟨w.heap.size + 1, 2, none⟩ = some (.string y3) := fun W hW => (HBY.out.of (hW.block _ HBY.out.lt)).cell 2 _ rfl
  clear hw1
  cases hst : Val.strange ⟨x1, x2, x3⟩ with
  | true =>
    have hr : rawV ⟨x1, x2, x3⟩ ⟨y1, y2, y3⟩ = false := by rw [HR.out, hst]; rfl
    rw [hr]
    rw [hst] at HS
    clear hst hr
    go_enter Try.func58, Try.ntmps58
    go_upto_region 1 with (fail)
    rw [HW1.out]
    refine QB.region w1 (by kernel_rfl) (by kernel_rfl) (Below.refl _ _) ?_
    refine QB.step (v := ?_) (by rfl) ?_ ?_
    rotate_left
    · (intro W hW; (try dsimp only at hW); go_simp; try with_reducible rfl)
    try simp only [Act.put, List.setIfInBounds_toArray, List.set_cons_zero, List.set_cons_succ]
    refine QB.step (v := ?_) (by rfl) ?_ ?_
    rotate_left
    · (intro W hW; (try dsimp only at hW); go_simp; with_reducible refine (HS.out _).mono ?_; rintro e w'' ⟨rfl, hb⟩; refine ⟨?_, hW.trans (hb.mono hW.size)⟩; with_reducible rfl)
    try simp only [Act.put, List.setIfInBounds_toArray, List.set_cons_zero, List.set_cons_succ]
    refine QB.step (v := ?_) (by rfl) ?_ ?_
    rotate_left
    · (intro W hW; (try dsimp only at hW); go_simp; try with_reducible rfl)
    try simp only [Act.put, List.setIfInBounds_toArray, List.set_cons_zero, List.set_cons_succ]
    refine QB.step (v := ?_) (by rfl) ?_ ?_
    rotate_left
    · (intro W hW; (try dsimp only at hW); go_simp; try with_reducible rfl)
    try simp only [Act.put, List.setIfInBounds_toArray, List.set_cons_zero, List.set_cons_succ]
    refine QB.skip (by rfl) ?_
    try simp only [Act.put, List.setIfInBounds_toArray, List.set_cons_zero, List.set_cons_succ]
    refine QB.skip (by rfl) ?_
    try simp only [Act.put, List.setIfInBounds_toArray, List.set_cons_zero, List.set_cons_succ]
    refine QB.skip (by rfl) ?_
    try simp only [Act.put, List.setIfInBounds_toArray, List.set_cons_zero, List.set_cons_succ]
    refine QB.skip (by rfl) ?_
    try simp only [Act.put, List.setIfInBounds_toArray, List.set_cons_zero, List.set_cons_succ]
    refine QB.skip (by rfl) ?_
    try simp only [Act.put, List.setIfInBounds_toArray, List.set_cons_zero, List.set_cons_succ]
    refine QB.step (v := ?_) (by rfl) ?_ ?_
    rotate_left
    · (intro W hW; (try dsimp only at hW); go_simp; try with_reducible rfl)
    try simp only [Act.put, List.setIfInBounds_toArray, List.set_cons_zero, List.set_cons_succ]
    refine QB.step (v := ?_) (by rfl) ?_ ?_
    rotate_left
    · (intro W hW; (try dsimp only at hW); go_simp; try with_reducible rfl)
    try simp only [Act.put, List.setIfInBounds_toArray, List.set_cons_zero, List.set_cons_succ]
    refine QB.skip (by rfl) ?_
    try simp only [Act.put, List.setIfInBounds_toArray, List.set_cons_zero, List.set_cons_succ]
    refine QB.skip (by rfl) ?_
    try simp only [Act.put, List.setIfInBounds_toArray, List.set_cons_zero, List.set_cons_succ]
    refine QB.skip (by rfl) ?_
    try simp only [Act.put, List.setIfInBounds_toArray, List.set_cons_zero, List.set_cons_succ]
    refine QB.skip (by rfl) ?_
    try simp only [Act.put, List.setIfInBounds_toArray, List.set_cons_zero, List.set_cons_succ]
    refine QB.skip (by rfl) ?_
    try simp only [Act.put, List.setIfInBounds_toArray, List.set_cons_zero, List.set_cons_succ]
    refine QB.step (v := ?_) (by rfl) ?_ ?_
    rotate_left
    · (intro W hW; (try dsimp only at hW); go_simp; try with_reducible rfl)
    try simp only [Act.put, List.setIfInBounds_toArray, List.set_cons_zero, List.set_cons_succ]
    refine QB.step (v := ?_) (by rfl) ?_ ?_
    rotate_left
    · (intro W hW; (try dsimp only at hW); go_simp; try with_reducible rfl)
    try simp only [Act.put, List.setIfInBounds_toArray, List.set_cons_zero, List.set_cons_succ]
    refine wpQuiet_nil ?_
    intro w2 hb2
    go_wp2_with fail
    go_ret
    exact ⟨rfl, HB0.out.trans (hb2.mono HB0.out.size)⟩
  | false =>
    rw [hst] at HS
    by_cases hk : x1 = y1
    · subst hk
      have hr : rawV ⟨x1, x2, x3⟩ ⟨x1, y2, y3⟩ = decide (Val.own ⟨x1, x2, x3⟩ = Val.own ⟨x1, y2, y3⟩) := by rw [HR.out, hst]; simp
      rw [hr]
      clear hst hr HR
      generalize Val.own ⟨x1, x2, x3⟩ = a at *
      generalize Val.own ⟨x1, y2, y3⟩ = b at *
      by_cases hab : a = b
      · subst hab
        rw [decide_eq_true rfl]
        obtain ⟨a1, a2, a3⟩ := a
        go_enter Try.func58, Try.ntmps58
        go_upto_region 1 with (fail)
        rw [HW1.out]
        refine QB.region w1 (by kernel_rfl) (by kernel_rfl) (Below.refl _ _) ?_
        refine QB.step (v := ?_) (by rfl) ?_ ?_
        rotate_left
        · (intro W hW; (try dsimp only at hW); go_simp; try with_reducible rfl)
        try simp only [Act.put, List.setIfInBounds_toArray, List.set_cons_zero, List.set_cons_succ]
        refine QB.step (v := ?_) (by rfl) ?_ ?_
        rotate_left
        · (intro W hW; (try dsimp only at hW); go_simp; with_reducible refine (HS.out _).mono ?_; rintro e w'' ⟨rfl, hb⟩; refine ⟨?_, hW.trans (hb.mono hW.size)⟩; with_reducible rfl)
        try simp only [Act.put, List.setIfInBounds_toArray, List.set_cons_zero, List.set_cons_succ]
        refine QB.step (v := ?_) (by rfl) ?_ ?_
        rotate_left
        · (intro W hW; (try dsimp only at hW); go_simp; try with_reducible rfl)
        try simp only [Act.put, List.setIfInBounds_toArray, List.set_cons_zero, List.set_cons_succ]
        refine QB.step (v := ?_) (by rfl) ?_ ?_
        rotate_left
        · (intro W hW; (try dsimp only at hW); go_simp; try with_reducible rfl)
        try simp only [Act.put, List.setIfInBounds_toArray, List.set_cons_zero, List.set_cons_succ]
        refine QB.step (v := ?_) (by rfl) ?_ ?_
        rotate_left
        · (intro W hW; (try dsimp only at hW); go_simp; try with_reducible rfl)
        try simp only [Act.put, List.setIfInBounds_toArray, List.set_cons_zero, List.set_cons_succ]
        refine QB.step (v := ?_) (by rfl) ?_ ?_
        rotate_left
        · (intro W hW; (try dsimp only at hW); go_simp; try with_reducible rfl)
        try simp only [Act.put, List.setIfInBounds_toArray, List.set_cons_zero, List.set_cons_succ]
        refine QB.step (v := ?_) (by rfl) ?_ ?_
        rotate_left
        · (intro W hW; (try dsimp only at hW); go_simp; try with_reducible rfl)
        try simp only [Act.put, List.setIfInBounds_toArray, List.set_cons_zero, List.set_cons_succ]
        refine QB.step (v := ?_) (by rfl) ?_ ?_
        rotate_left
        · (intro W hW; (try dsimp only at hW); go_simp; try with_reducible rfl)
        try simp only [Act.put, List.setIfInBounds_toArray, List.set_cons_zero, List.set_cons_succ]
        refine QB.step (v := ?_) (by rfl) ?_ ?_
        rotate_left
        · (intro W hW; (try dsimp only at hW); go_simp; try with_reducible rfl)
        try simp only [Act.put, List.setIfInBounds_toArray, List.set_cons_zero, List.set_cons_succ]
        refine QB.step (v := ?_) (by rfl) ?_ ?_
        rotate_left
        · (intro W hW; (try dsimp only at hW); go_simp; try with_reducible rfl)
        try simp only [Act.put, List.setIfInBounds_toArray, List.set_cons_zero, List.set_cons_succ]
        refine QB.step (v := ?_) (by rfl) ?_ ?_
        rotate_left
        · (intro W hW; (try dsimp only at hW); go_simp; try with_reducible rfl)
        try simp only [Act.put, List.setIfInBounds_toArray, List.set_cons_zero, List.set_cons_succ]
        refine QB.step (v := ?_) (by rfl) ?_ ?_
        rotate_left
        · (intro W hW; (try dsimp only at hW); go_simp; try with_reducible rfl)
        try simp only [Act.put, List.setIfInBounds_toArray, List.set_cons_zero, List.set_cons_succ]
        refine QB.step (v := ?_) (by rfl) ?_ ?_
        rotate_left
        · (intro W hW; (try dsimp only at hW); go_simp; with_reducible refine (HX.out _).mono ?_; rintro e w'' ⟨rfl, hb⟩; refine ⟨?_, hW.trans (hb.mono hW.size)⟩; with_reducible rfl)
        try simp only [Act.put, List.setIfInBounds_toArray, List.set_cons_zero, List.set_cons_succ]
        refine QB.step (v := ?_) (by rfl) ?_ ?_
        rotate_left
        · (intro W hW; (try dsimp only at hW); go_simp; try with_reducible rfl)
        try simp only [Act.put, List.setIfInBounds_toArray, List.set_cons_zero, List.set_cons_succ]
        refine QB.step (v := ?_) (by rfl) ?_ ?_
        rotate_left
        · (intro W hW; (try dsimp only at hW); go_simp; with_reducible refine (HY.out _).mono ?_; rintro e w'' ⟨rfl, hb⟩; refine ⟨?_, hW.trans (hb.mono hW.size)⟩; with_reducible rfl)
        try simp only [Act.put, List.setIfInBounds_toArray, List.set_cons_zero, List.set_cons_succ]
        refine QB.step (v := ?_) (by rfl) ?_ ?_
        rotate_left
        · (intro W hW; (try dsimp only at hW); go_simp; try with_reducible rfl)
        try simp only [Act.put, List.setIfInBounds_toArray, List.set_cons_zero, List.set_cons_succ]
        refine QB.step (v := ?_) (by rfl) ?_ ?_
        rotate_left
        · (intro W hW; (try dsimp only at hW); go_simp; try with_reducible rfl)
        try simp only [Act.put, List.setIfInBounds_toArray, List.set_cons_zero, List.set_cons_succ]
        refine QB.step (v := ?_) (by rfl) ?_ ?_
        rotate_left
        · (intro W hW; (try dsimp only at hW); go_simp; try with_reducible rfl)
        try simp only [Act.put, List.setIfInBounds_toArray, List.set_cons_zero, List.set_cons_succ]
        refine wpQuiet_nil ?_
        intro w2 hb2
        go_wp2_with fail
        go_ret
        exact ⟨rfl, HB0.out.trans (hb2.mono HB0.out.size)⟩
      · rw [decide_eq_false hab]
        have h3 := val_ne hab
        clear hab
        obtain ⟨a1, a2, a3⟩ := a
        obtain ⟨b1, b2, b3⟩ := b
        dsimp only at h3
        rcases h3 with h3 | ⟨rfl, h3 | ⟨rfl, h3⟩⟩
        all_goals
          go_enter Try.func58, Try.ntmps58
          go_upto_region 1 with (fail)
          rw [HW1.out]
          refine QB.region w1 (by kernel_rfl) (by kernel_rfl) (Below.refl _ _) ?_
          refine QB.step (v := ?_) (by rfl) ?_ ?_
          rotate_left
          · (intro W hW; (try dsimp only at hW); go_simp; try with_reducible rfl)
          try simp only [Act.put, List.setIfInBounds_toArray, List.set_cons_zero, List.set_cons_succ]
          refine QB.step (v := ?_) (by rfl) ?_ ?_
          rotate_left
          · (intro W hW; (try dsimp only at hW); go_simp; with_reducible refine (HS.out _).mono ?_; rintro e w'' ⟨rfl, hb⟩; refine ⟨?_, hW.trans (hb.mono hW.size)⟩; with_reducible rfl)
          try simp only [Act.put, List.setIfInBounds_toArray, List.set_cons_zero, List.set_cons_succ]
          refine QB.step (v := ?_) (by rfl) ?_ ?_
          rotate_left
          · (intro W hW; (try dsimp only at hW); go_simp; try with_reducible rfl)
          try simp only [Act.put, List.setIfInBounds_toArray, List.set_cons_zero, List.set_cons_succ]
          refine QB.step (v := ?_) (by rfl) ?_ ?_
          rotate_left
          · (intro W hW; (try dsimp only at hW); go_simp; try with_reducible rfl)
          try simp only [Act.put, List.setIfInBounds_toArray, List.set_cons_zero, List.set_cons_succ]
          refine QB.step (v := ?_) (by rfl) ?_ ?_
          rotate_left
          · (intro W hW; (try dsimp only at hW); go_simp; try with_reducible rfl)
          try simp only [Act.put, List.setIfInBounds_toArray, List.set_cons_zero, List.set_cons_succ]
          refine QB.step (v := ?_) (by rfl) ?_ ?_
          rotate_left
          · (intro W hW; (try dsimp only at hW); go_simp; try with_reducible rfl)
          try simp only [Act.put, List.setIfInBounds_toArray, List.set_cons_zero, List.set_cons_succ]
          refine QB.step (v := ?_) (by rfl) ?_ ?_
          rotate_left
          · (intro W hW; (try dsimp only at hW); go_simp; try with_reducible rfl)
          try simp only [Act.put, List.setIfInBounds_toArray, List.set_cons_zero, List.set_cons_succ]
          refine QB.step (v := ?_) (by rfl) ?_ ?_
          rotate_left
          · (intro W hW; (try dsimp only at hW); go_simp; try with_reducible rfl)
          try simp only [Act.put, List.setIfInBounds_toArray, List.set_cons_zero, List.set_cons_succ]
          refine QB.step (v := ?_) (by rfl) ?_ ?_
          rotate_left
          · (intro W hW; (try dsimp only at hW); go_simp; try with_reducible rfl)
          try simp only [Act.put, List.setIfInBounds_toArray, List.set_cons_zero, List.set_cons_succ]
          refine QB.step (v := ?_) (by rfl) ?_ ?_
          rotate_left
          · (intro W hW; (try dsimp only at hW); go_simp; try with_reducible rfl)
          try simp only [Act.put, List.setIfInBounds_toArray, List.set_cons_zero, List.set_cons_succ]
          refine QB.step (v := ?_) (by rfl) ?_ ?_
          rotate_left
          · (intro W hW; (try dsimp only at hW); go_simp; try with_reducible rfl)
          try simp only [Act.put, List.setIfInBounds_toArray, List.set_cons_zero, List.set_cons_succ]
          refine QB.step (v := ?_) (by rfl) ?_ ?_
          rotate_left
          · (intro W hW; (try dsimp only at hW); go_simp; try with_reducible rfl)
          try simp only [Act.put, List.setIfInBounds_toArray, List.set_cons_zero, List.set_cons_succ]
          refine QB.step (v := ?_) (by rfl) ?_ ?_
          rotate_left
          · (intro W hW; (try dsimp only at hW); go_simp; with_reducible refine (HX.out _).mono ?_; rintro e w'' ⟨rfl, hb⟩; refine ⟨?_, hW.trans (hb.mono hW.size)⟩; with_reducible rfl)
          try simp only [Act.put, List.setIfInBounds_toArray, List.set_cons_zero, List.set_cons_succ]
          refine QB.step (v := ?_) (by rfl) ?_ ?_
          rotate_left
          · (intro W hW; (try dsimp only at hW); go_simp; try with_reducible rfl)
          try simp only [Act.put, List.setIfInBounds_toArray, List.set_cons_zero, List.set_cons_succ]
          refine QB.step (v := ?_) (by rfl) ?_ ?_
          rotate_left
          · (intro W hW; (try dsimp only at hW); go_simp; with_reducible refine (HY.out _).mono ?_; rintro e w'' ⟨rfl, hb⟩; refine ⟨?_, hW.trans (hb.mono hW.size)⟩; with_reducible rfl)
          try simp only [Act.put, List.setIfInBounds_toArray, List.set_cons_zero, List.set_cons_succ]
          refine QB.step (v := ?_) (by rfl) ?_ ?_
          rotate_left
          · (intro W hW; (try dsimp only at hW); go_simp; try with_reducible rfl)
          try simp only [Act.put, List.setIfInBounds_toArray, List.set_cons_zero, List.set_cons_succ]
          refine QB.step (v := ?_) (by rfl) ?_ ?_
          rotate_left
          · (intro W hW; (try dsimp only at hW); go_simp; try with_reducible rfl)
          try simp only [Act.put, List.setIfInBounds_toArray, List.set_cons_zero, List.set_cons_succ]
          refine QB.step (v := ?_) (by rfl) ?_ ?_
          rotate_left
          · (intro W hW; (try dsimp only at hW); go_simp; try with_reducible rfl)
          try simp only [Act.put, List.setIfInBounds_toArray, List.set_cons_zero, List.set_cons_succ]
          refine wpQuiet_nil ?_
          intro w2 hb2
          go_wp2_with fail
          go_ret
          exact ⟨rfl, HB0.out.trans (hb2.mono HB0.out.size)⟩
    · have hr : rawV ⟨x1, x2, x3⟩ ⟨y1, y2, y3⟩ = false := by rw [HR.out]; simp [hk]
      have hk' : (x1 == y1) = false := by simp [hk]
      rw [hr]
      clear hst hr HR hk
      go_enter Try.func58, Try.ntmps58
      go_upto_region 1 with (fail)
      rw [HW1.out]
      refine QB.region w1 (by kernel_rfl) (by kernel_rfl) (Below.refl _ _) ?_
      refine QB.step (v := ?_) (by rfl) ?_ ?_
      rotate_left
      · (intro W hW; (try dsimp only at hW); go_simp; try with_reducible rfl)
      try simp only [Act.put, List.setIfInBounds_toArray, List.set_cons_zero, List.set_cons_succ]
      refine QB.step (v := ?_) (by rfl) ?_ ?_
      rotate_left
      · (intro W hW; (try dsimp only at hW); go_simp; with_reducible refine (HS.out _).mono ?_; rintro e w'' ⟨rfl, hb⟩; refine ⟨?_, hW.trans (hb.mono hW.size)⟩; with_reducible rfl)
      try simp only [Act.put, List.setIfInBounds_toArray, List.set_cons_zero, List.set_cons_succ]
      refine QB.step (v := ?_) (by rfl) ?_ ?_
      rotate_left
      · (intro W hW; (try dsimp only at hW); go_simp; try with_reducible rfl)
      try simp only [Act.put, List.setIfInBounds_toArray, List.set_cons_zero, List.set_cons_succ]
      refine QB.step (v := ?_) (by rfl) ?_ ?_
      rotate_left
      · (intro W hW; (try dsimp only at hW); go_simp; try with_reducible rfl)
      try simp only [Act.put, List.setIfInBounds_toArray, List.set_cons_zero, List.set_cons_succ]
      refine QB.step (v := ?_) (by rfl) ?_ ?_
      rotate_left
      · (intro W hW; (try dsimp only at hW); go_simp; try with_reducible rfl)
      try simp only [Act.put, List.setIfInBounds_toArray, List.set_cons_zero, List.set_cons_succ]
      refine QB.step (v := ?_) (by rfl) ?_ ?_
      rotate_left
      · (intro W hW; (try dsimp only at hW); go_simp; try with_reducible rfl)
      try simp only [Act.put, List.setIfInBounds_toArray, List.set_cons_zero, List.set_cons_succ]
      refine QB.step (v := ?_) (by rfl) ?_ ?_
      rotate_left
      · (intro W hW; (try dsimp only at hW); go_simp; try with_reducible rfl)
      try simp only [Act.put, List.setIfInBounds_toArray, List.set_cons_zero, List.set_cons_succ]
      refine QB.step (v := ?_) (by rfl) ?_ ?_
      rotate_left
      · (intro W hW; (try dsimp only at hW); go_simp; try with_reducible rfl)
      try simp only [Act.put, List.setIfInBounds_toArray, List.set_cons_zero, List.set_cons_succ]
      refine QB.step (v := ?_) (by rfl) ?_ ?_
      rotate_left
      · (intro W hW; (try dsimp only at hW); go_simp; try with_reducible rfl)
      try simp only [Act.put, List.setIfInBounds_toArray, List.set_cons_zero, List.set_cons_succ]
      refine QB.step (v := ?_) (by rfl) ?_ ?_
      rotate_left
      · (intro W hW; (try dsimp only at hW); go_simp; try with_reducible rfl)
      try simp only [Act.put, List.setIfInBounds_toArray, List.set_cons_zero, List.set_cons_succ]
      refine QB.step (v := ?_) (by rfl) ?_ ?_
      rotate_left
      · (intro W hW; (try dsimp only at hW); go_simp; try with_reducible rfl)
      try simp only [Act.put, List.setIfInBounds_toArray, List.set_cons_zero, List.set_cons_succ]
      refine QB.skip (by rfl) ?_
      try simp only [Act.put, List.setIfInBounds_toArray, List.set_cons_zero, List.set_cons_succ]
      refine QB.skip (by rfl) ?_
      try simp only [Act.put, List.setIfInBounds_toArray, List.set_cons_zero, List.set_cons_succ]
      refine QB.skip (by rfl) ?_
      try simp only [Act.put, List.setIfInBounds_toArray, List.set_cons_zero, List.set_cons_succ]
      refine QB.skip (by rfl) ?_
      try simp only [Act.put, List.setIfInBounds_toArray, List.set_cons_zero, List.set_cons_succ]
      refine QB.skip (by rfl) ?_
      try simp only [Act.put, List.setIfInBounds_toArray, List.set_cons_zero, List.set_cons_succ]
      refine QB.step (v := ?_) (by rfl) ?_ ?_
      rotate_left
      · (intro W hW; (try dsimp only at hW); go_simp; try with_reducible rfl)
      try simp only [Act.put, List.setIfInBounds_toArray, List.set_cons_zero, List.set_cons_succ]
      refine QB.step (v := ?_) (by rfl) ?_ ?_
      rotate_left
      · (intro W hW; (try dsimp only at hW); go_simp; try with_reducible rfl)
      try simp only [Act.put, List.setIfInBounds_toArray, List.set_cons_zero, List.set_cons_succ]
      refine wpQuiet_nil ?_
      intro w2 hb2
      go_wp2_with fail
      go_ret
      exact ⟨rfl, HB0.out.trans (hb2.mono HB0.out.size)⟩
end Go.Proofs.Ytmjfmfelbmbniaa
