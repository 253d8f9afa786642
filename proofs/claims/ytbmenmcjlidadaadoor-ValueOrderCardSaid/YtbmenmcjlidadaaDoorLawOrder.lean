/- The law ValueOrder: its walk, and the plain law. -/
import Derived.Test.YtbmenmcjlidadaaDoorLaws01
import Derived.Test.YtbmenmcjlidadaaDoorPAllx0
import Derived.Test.YtbmenmcjlidadaaDoorPAllx3
import Derived.LoopTactic
import Derived.Lib.Hide
import Derived.Deep.QuietTactic
import Derived.BigQuiet
import Derived.Outline
set_option linter.unusedVariables false
set_option linter.unusedSimpArgs false
namespace Go.Proofs.YtbmenmcjlidadaaDoor.LawOrder
open Go.RowKit Go.Proofs.YtbmenmcjlidadaaDoor.PAll Go.Proofs.YtbmenmcjlidadaaDoorW.PrintWords Go.Proofs.YtbmenmcjlidadaaDoorW.PrintLast Go.Proofs.YtbmenmcjlidadaaDoorW.PrintMore Go.Proofs.YtbmenmcjlidadaaDoor.Maths Go.Proofs.YtbmenmcjlidadaaDoor.TabW Go.Proofs.YtbmenmcjlidadaaDoor.Val Go.Proofs.YtbmenmcjlidadaaDoor.Ref01 Go.Proofs.YtbmenmcjlidadaaDoor.Laws01
theorem bthen {a b c : World} (h : Below a.heap.size a b) (k : Below b.heap.size b c) : Below a.heap.size a c := h.trans (k.mono h.size)
theorem alive_calls (w : World) (hT : Tab w) : Calls Tryd.prog 8 #[] w fun e w' => e = .returned (.bool true) ∧ Below w.heap.size w w' :=
  selkielaw01_alive.calls true w hT alive_is
theorem reads3 (w : World) (v0 v1 v2 : S23) :
    Kd.C k23 (w.alloc (.cells #[.int .i64 v0.f0, .int .i64 v0.f1, .string v0.f2, .int .i64 v1.f0, .int .i64 v1.f1, .string v1.f2, .int .i64 v2.f0, .int .i64 v2.f1, .string v2.f2] 23)) (some ⟨w.heap.size, 0, none⟩) 3 [v0, v1, v2] := by
  refine ⟨rfl, by omega, fun _ => ⟨_, rfl, ?_⟩⟩
  intro j p hp
  have hj : j < 3 := by have := (List.getElem?_eq_some_iff.1 hp).1; simpa using this
  have cell : ∀ q u, (#[.int .i64 v0.f0, .int .i64 v0.f1, .string v0.f2, .int .i64 v1.f0, .int .i64 v1.f1, .string v1.f2, .int .i64 v2.f0, .int .i64 v2.f1, .string v2.f2] : Array Value)[q]? = some u → (w.alloc (.cells #[.int .i64 v0.f0, .int .i64 v0.f1, .string v0.f2, .int .i64 v1.f0, .int .i64 v1.f1, .string v1.f2, .int .i64 v2.f0, .int .i64 v2.f1, .string v2.f2] 23)).cell? ((⟨w.heap.size, 0, none⟩ : Addr).add q) = some u := by
    intro q u hq
    have e : (⟨w.heap.size, 0, none⟩ : Addr).add q = ⟨w.heap.size, q, none⟩ := by unfold Addr.add; split <;> simp_all
    rw [e, ← hq]; exact World.cell?_alloc_at _ _ _ _ rfl
  obtain rfl | rfl | rfl : j = 0 ∨ j = 1 ∨ j = 2 := by omega
  all_goals
    simp at hp; subst hp
    refine ⟨_, rfl, k23_mk _ _, ?_⟩
    intro i u hu
    have hi : i < 3 := by have := (List.getElem?_eq_some_iff.1 hu).1; simpa using this
    refine cell _ u ?_
    obtain rfl | rfl | rfl : i = 0 ∨ i = 1 ∨ i = 2 := by omega
    all_goals exact hu

theorem great_calls (w : World) (v0 v1 v2 : S23) : Calls Tryd.prog 9 #[.slice (some ⟨w.heap.size, 0, none⟩) 3 3] (w.alloc (.cells #[.int .i64 v0.f0, .int .i64 v0.f1, .string v0.f2, .int .i64 v1.f0, .int .i64 v1.f1, .string v1.f2, .int .i64 v2.f0, .int .i64 v2.f1, .string v2.f2] 23)) fun e w' =>
    e = .returned (.bool (greatB [v0, v1, v2])) ∧ Below (w.heap.size + 1) (w.alloc (.cells #[.int .i64 v0.f0, .int .i64 v0.f1, .string v0.f2, .int .i64 v1.f0, .int .i64 v1.f1, .string v1.f2, .int .i64 v2.f0, .int .i64 v2.f1, .string v2.f2] 23)) w' := by
  have h := selkielaw01_great.calls 4 (some ⟨w.heap.size, 0, none⟩) 3 [v0, v1, v2] (greatB [v0, v1, v2]) _ (reads3 w v0 v1 v2) (Nat.le_refl _) (great_is 0 _ (by simp))
  exact h.mono fun e w' hh => ⟨hh.1, hh.2.mono (by simp)⟩
/-- the three parameters' cells, as they lie behind any calls -/
structure C9 (w : World) (k0 n0 k1 n1 k2 n2 : Int) (s0 s1 s2 : ByteArray) (W : World) : Prop where
  sz : w.heap.size + 3 ≤ W.heap.size
  bel : Below w.heap.size w W
  c00 : W.cell? ⟨w.heap.size, 0, none⟩ = some (.int .i64 k0)
  c01 : W.cell? ⟨w.heap.size, 1, none⟩ = some (.int .i64 n0)
  c02 : W.cell? ⟨w.heap.size, 2, none⟩ = some (.string s0)
  c10 : W.cell? ⟨w.heap.size + 1, 0, none⟩ = some (.int .i64 k1)
  c11 : W.cell? ⟨w.heap.size + 1, 1, none⟩ = some (.int .i64 n1)
  c12 : W.cell? ⟨w.heap.size + 1, 2, none⟩ = some (.string s1)
  c20 : W.cell? ⟨w.heap.size + 1 + 1, 0, none⟩ = some (.int .i64 k2)
  c21 : W.cell? ⟨w.heap.size + 1 + 1, 1, none⟩ = some (.int .i64 n2)
  c22 : W.cell? ⟨w.heap.size + 1 + 1, 2, none⟩ = some (.string s2)
section
variable {w W W' : World} {k0 n0 k1 n1 k2 n2 : Int} {s0 s1 s2 : ByteArray}
theorem C9.on (h : C9 w k0 n0 k1 n1 k2 n2 s0 s1 s2 W) (hb : Below W.heap.size W W') : C9 w k0 n0 k1 n1 k2 n2 s0 s1 s2 W' :=
  have z := h.sz
  ⟨Nat.le_trans z hb.size, bthen h.bel hb, (hb.cell (p := ⟨w.heap.size, 0, none⟩) (by simp only; omega)).trans h.c00, (hb.cell (p := ⟨w.heap.size, 1, none⟩) (by simp only; omega)).trans h.c01, (hb.cell (p := ⟨w.heap.size, 2, none⟩) (by simp only; omega)).trans h.c02, (hb.cell (p := ⟨w.heap.size + 1, 0, none⟩) (by simp only; omega)).trans h.c10, (hb.cell (p := ⟨w.heap.size + 1, 1, none⟩) (by simp only; omega)).trans h.c11, (hb.cell (p := ⟨w.heap.size + 1, 2, none⟩) (by simp only; omega)).trans h.c12, (hb.cell (p := ⟨w.heap.size + 1 + 1, 0, none⟩) (by simp only; omega)).trans h.c20, (hb.cell (p := ⟨w.heap.size + 1 + 1, 1, none⟩) (by simp only; omega)).trans h.c21, (hb.cell (p := ⟨w.heap.size + 1 + 1, 2, none⟩) (by simp only; omega)).trans h.c22⟩
theorem C9.alloc (h : C9 w k0 n0 k1 n1 k2 n2 s0 s1 s2 W) (o : Obj) : C9 w k0 n0 k1 n1 k2 n2 s0 s1 s2 (W.alloc o) := h.on ((Below.refl _ _).alloc (Nat.le_refl _) _)
end
theorem C9.start (w : World) (k0 n0 k1 n1 k2 n2 : Int) (s0 s1 s2 : ByteArray) : C9 w k0 n0 k1 n1 k2 n2 s0 s1 s2 (((w.alloc (.cells #[.int .i64 k0, .int .i64 n0, .string s0] 23)).alloc (.cells #[.int .i64 k1, .int .i64 n1, .string s1] 23)).alloc (.cells #[.int .i64 k2, .int .i64 n2, .string s2] 23)) := by
  refine ⟨by simp, (((Below.refl _ _).alloc (Nat.le_refl _) _).alloc (by simp) _).alloc (by simp; omega) _, ?_, ?_, ?_, ?_, ?_, ?_, ?_, ?_, ?_⟩ <;> go_simp
def cnt3 (x y z : Bool) (k : Nat) : Int := ((([x, y, z].take k).filter id).length : Nat)
set_option maxHeartbeats 8000000 in
theorem core (k0 n0 k1 n1 k2 n2 : Int) (s0 s1 s2 : ByteArray) (w : World) (hT : Tab w) (ab ok ba is bc so ac too rb : Bool)
    (hg : greatB [⟨k0, n0, s0⟩, ⟨k1, n1, s1⟩, ⟨k2, n2, s2⟩] = false) (h01 : lessB k0 n0 s0 k1 n1 s1 = (ab, ok)) (h10 : lessB k1 n1 s1 k0 n0 s0 = (ba, is)) (h12 : lessB k1 n1 s1 k2 n2 s2 = (bc, so)) (h02 : lessB k0 n0 s0 k2 n2 s2 = (ac, too)) (hr : rawB k0 n0 s0 k1 n1 s1 = rb)
    (fin : (ok = false ∧ is = false ∧ ab = false ∧ ba = false) ∨ (ok = true ∧ is = true ∧ (ab = true ∧ ba = false ∧ rb = false ∧ (bc = false ∨ bc = true ∧ so = true ∧ too = true ∧ ac = true) ∨ ab = false ∧ ba = true ∧ rb = false ∨ ab = false ∧ ba = false ∧ rb = true))) :
    Calls Tryd.prog 6 #[.agg #[.int .i64 k0, .int .i64 n0, .string s0], .agg #[.int .i64 k1, .int .i64 n1, .string s1], .agg #[.int .i64 k2, .int .i64 n2, .string s2]] w fun e w' => e = .returned (.bool true) ∧ Below w.heap.size w w' := by
  have C0 := C9.start w k0 n0 k1 n1 k2 n2 s0 s1 s2
  have l01 : ∀ W : World, _ := fun W => less_calls k0 n0 s0 k1 n1 s1 W
  have l10 : ∀ W : World, _ := fun W => less_calls k1 n1 s1 k0 n0 s0 W
  have l12 : ∀ W : World, _ := fun W => less_calls k1 n1 s1 k2 n2 s2 W
  have l02 : ∀ W : World, _ := fun W => less_calls k0 n0 s0 k2 n2 s2 W
  have lr : ∀ W : World, _ := fun W => raw_calls k0 n0 s0 k1 n1 s1 W
  rw [h01] at l01; rw [h10] at l10; rw [h12] at l12; rw [h02] at l02; rw [hr] at lr
  have gr := fun W => great_calls W ⟨k0, n0, s0⟩ ⟨k1, n1, s1⟩ ⟨k2, n2, s2⟩
  rw [hg] at gr
  have T0 := Lib.hid hT
  have D0 := Lib.hid C0
  have L01 := Lib.hid l01; have L10 := Lib.hid l10; have L12 := Lib.hid l12; have L02 := Lib.hid l02; have LR := Lib.hid lr; have GR := Lib.hid gr
  clear h01 h10 h12 h02 hr hg hT C0 l01 l10 l12 l02 lr gr
  have ix : ∀ (x y z : Bool) (W : World), (Instr.index 38 (.agg #[.bool x, .bool y, .bool z]) (.int .i64 0)).run Tryd.prog W = .ok (.bool x) W := fun x y z W => by cases x <;> cases y <;> cases z <;> kernel_rfl
  have iy : ∀ (x y z : Bool) (W : World), (Instr.index 38 (.agg #[.bool x, .bool y, .bool z]) (.int .i64 1)).run Tryd.prog W = .ok (.bool y) W := fun x y z W => by cases x <;> cases y <;> cases z <;> kernel_rfl
  have iz : ∀ (x y z : Bool) (W : World), (Instr.index 38 (.agg #[.bool x, .bool y, .bool z]) (.int .i64 2)).run Tryd.prog W = .ok (.bool z) W := fun x y z W => by cases x <;> cases y <;> cases z <;> kernel_rfl
  go_enter Tryd.func6, Tryd.ntmps6
  go_wp2_with fail
  refine (alive_calls _ (T0.out.on D0.out.bel)).mono ?_
  rintro e w1 ⟨rfl, b1⟩
  have C1 := D0.out.on b1
  have D1 := Lib.hid C1
  obtain ⟨z1, _, ac00, ac01, ac02, ac10, ac11, ac12, ac20, ac21, ac22⟩ := C1
  clear b1
  go_wp2_with fail
  refine (GR.out _).mono ?_
  rintro e w2 ⟨rfl, b2⟩
  have C2 := (D1.out.alloc _).on (b2.mono (by simp))
  have D2 := Lib.hid C2
  obtain ⟨z1, _, ac00, ac01, ac02, ac10, ac11, ac12, ac20, ac21, ac22⟩ := C2
  clear b2
  rcases fin with ⟨rfl, rfl, rfl, rfl⟩ | ⟨rfl, rfl, ⟨rfl, rfl, rfl, (rfl | ⟨rfl, rfl, rfl, rfl⟩)⟩ | ⟨rfl, rfl, rfl⟩ | ⟨rfl, rfl, rfl⟩⟩
  · cases rb
    · skip
      go_wp2_with fail
      refine (L01.out _).mono ?_
      rintro e w3 ⟨rfl, b3⟩
      have C3 := D2.out.on b3
      have D3 := Lib.hid C3
      obtain ⟨z3, _, ac00, ac01, ac02, ac10, ac11, ac12, ac20, ac21, ac22⟩ := C3
      clear b3
      go_wp2_with fail
      refine (L10.out _).mono ?_
      rintro e w4 ⟨rfl, b4⟩
      have C4 := D3.out.on b4
      have D4 := Lib.hid C4
      obtain ⟨z4, _, ac00, ac01, ac02, ac10, ac11, ac12, ac20, ac21, ac22⟩ := C4
      clear b4
      go_wp2_with fail
      refine (L12.out _).mono ?_
      rintro e w5 ⟨rfl, b5⟩
      have C5 := D4.out.on b5
      have D5 := Lib.hid C5
      obtain ⟨z5, _, ac00, ac01, ac02, ac10, ac11, ac12, ac20, ac21, ac22⟩ := C5
      clear b5
      go_wp2_with fail
      refine (L02.out _).mono ?_
      rintro e w6 ⟨rfl, b6⟩
      have C6 := D5.out.on b6
      have D6 := Lib.hid C6
      obtain ⟨z6, _, ac00, ac01, ac02, ac10, ac11, ac12, ac20, ac21, ac22⟩ := C6
      clear b6
      go_wp2_with fail
      refine (LR.out _).mono ?_
      rintro e w7 ⟨rfl, b7⟩
      have C7 := D6.out.on b7
      have D7 := Lib.hid C7
      obtain ⟨z7, _, ac00, ac01, ac02, ac10, ac11, ac12, ac20, ac21, ac22⟩ := C7
      clear b7
      go_wp2_with fail
      go_loop [15, 68] (fun n i => ∃ k : Nat, k ≤ 3 ∧ i = .int .i64 k ∧ n = .int .i64 (cnt3 false false false k)) (fun _ i => 3 - (intOf i).toNat)
      case atStart => exact ⟨0, by omega, rfl, rfl⟩
      case round =>
        obtain ⟨k, hk, rfl, rfl⟩ := hrel
        obtain rfl | rfl | rfl | rfl : k = 0 ∨ k = 1 ∨ k = 2 ∨ k = 3 := by omega
        · have e1 : cnt3 false false false 0 = 0 := rfl
          rw [e1]; clear e1
          go_wp2
          go_round
          case rel => exact ⟨1, by omega, rfl, rfl⟩
          case measure => simp [intOf]
        · have e1 : cnt3 false false false 1 = 0 := rfl
          rw [e1]; clear e1
          go_wp2
          go_round
          case rel => exact ⟨2, by omega, rfl, rfl⟩
          case measure => simp [intOf]
        · have e1 : cnt3 false false false 2 = 0 := rfl
          rw [e1]; clear e1
          go_wp2
          go_round
          case rel => exact ⟨3, by omega, rfl, rfl⟩
          case measure => simp [intOf]
        · have e1 : cnt3 false false false 3 = 0 := rfl
          rw [e1]; clear e1
          go_wp2
          go_ret
          exact ⟨rfl, D7.out.bel⟩
    · skip
      go_wp2_with fail
      refine (L01.out _).mono ?_
      rintro e w3 ⟨rfl, b3⟩
      have C3 := D2.out.on b3
      have D3 := Lib.hid C3
      obtain ⟨z3, _, ac00, ac01, ac02, ac10, ac11, ac12, ac20, ac21, ac22⟩ := C3
      clear b3
      go_wp2_with fail
      refine (L10.out _).mono ?_
      rintro e w4 ⟨rfl, b4⟩
      have C4 := D3.out.on b4
      have D4 := Lib.hid C4
      obtain ⟨z4, _, ac00, ac01, ac02, ac10, ac11, ac12, ac20, ac21, ac22⟩ := C4
      clear b4
      go_wp2_with fail
      refine (L12.out _).mono ?_
      rintro e w5 ⟨rfl, b5⟩
      have C5 := D4.out.on b5
      have D5 := Lib.hid C5
      obtain ⟨z5, _, ac00, ac01, ac02, ac10, ac11, ac12, ac20, ac21, ac22⟩ := C5
      clear b5
      go_wp2_with fail
      refine (L02.out _).mono ?_
      rintro e w6 ⟨rfl, b6⟩
      have C6 := D5.out.on b6
      have D6 := Lib.hid C6
      obtain ⟨z6, _, ac00, ac01, ac02, ac10, ac11, ac12, ac20, ac21, ac22⟩ := C6
      clear b6
      go_wp2_with fail
      refine (LR.out _).mono ?_
      rintro e w7 ⟨rfl, b7⟩
      have C7 := D6.out.on b7
      have D7 := Lib.hid C7
      obtain ⟨z7, _, ac00, ac01, ac02, ac10, ac11, ac12, ac20, ac21, ac22⟩ := C7
      clear b7
      go_wp2_with fail
      go_loop [15, 68] (fun n i => ∃ k : Nat, k ≤ 3 ∧ i = .int .i64 k ∧ n = .int .i64 (cnt3 false false true k)) (fun _ i => 3 - (intOf i).toNat)
      case atStart => exact ⟨0, by omega, rfl, rfl⟩
      case round =>
        obtain ⟨k, hk, rfl, rfl⟩ := hrel
        obtain rfl | rfl | rfl | rfl : k = 0 ∨ k = 1 ∨ k = 2 ∨ k = 3 := by omega
        · have e1 : cnt3 false false true 0 = 0 := rfl
          rw [e1]; clear e1
          go_wp2
          go_round
          case rel => exact ⟨1, by omega, rfl, rfl⟩
          case measure => simp [intOf]
        · have e1 : cnt3 false false true 1 = 0 := rfl
          rw [e1]; clear e1
          go_wp2
          go_round
          case rel => exact ⟨2, by omega, rfl, rfl⟩
          case measure => simp [intOf]
        · have e1 : cnt3 false false true 2 = 0 := rfl
          rw [e1]; clear e1
          go_wp2
          go_round
          case rel => exact ⟨3, by omega, rfl, rfl⟩
          case measure => simp [intOf]
        · have e1 : cnt3 false false true 3 = 1 := rfl
          rw [e1]; clear e1
          go_wp2
          go_ret
          exact ⟨rfl, D7.out.bel⟩
  · skip
    go_wp2_with fail
    refine (L01.out _).mono ?_
    rintro e w3 ⟨rfl, b3⟩
    have C3 := D2.out.on b3
    have D3 := Lib.hid C3
    obtain ⟨z3, _, ac00, ac01, ac02, ac10, ac11, ac12, ac20, ac21, ac22⟩ := C3
    clear b3
    go_wp2_with fail
    refine (L10.out _).mono ?_
    rintro e w4 ⟨rfl, b4⟩
    have C4 := D3.out.on b4
    have D4 := Lib.hid C4
    obtain ⟨z4, _, ac00, ac01, ac02, ac10, ac11, ac12, ac20, ac21, ac22⟩ := C4
    clear b4
    go_wp2_with fail
    refine (L12.out _).mono ?_
    rintro e w5 ⟨rfl, b5⟩
    have C5 := D4.out.on b5
    have D5 := Lib.hid C5
    obtain ⟨z5, _, ac00, ac01, ac02, ac10, ac11, ac12, ac20, ac21, ac22⟩ := C5
    clear b5
    go_wp2_with fail
    refine (L02.out _).mono ?_
    rintro e w6 ⟨rfl, b6⟩
    have C6 := D5.out.on b6
    have D6 := Lib.hid C6
    obtain ⟨z6, _, ac00, ac01, ac02, ac10, ac11, ac12, ac20, ac21, ac22⟩ := C6
    clear b6
    go_wp2_with fail
    refine (LR.out _).mono ?_
    rintro e w7 ⟨rfl, b7⟩
    have C7 := D6.out.on b7
    have D7 := Lib.hid C7
    obtain ⟨z7, _, ac00, ac01, ac02, ac10, ac11, ac12, ac20, ac21, ac22⟩ := C7
    clear b7
    go_wp2_with fail
    go_loop [15, 68] (fun n i => ∃ k : Nat, k ≤ 3 ∧ i = .int .i64 k ∧ n = .int .i64 (cnt3 true false false k)) (fun _ i => 3 - (intOf i).toNat)
    case atStart => exact ⟨0, by omega, rfl, rfl⟩
    case round =>
      obtain ⟨k, hk, rfl, rfl⟩ := hrel
      obtain rfl | rfl | rfl | rfl : k = 0 ∨ k = 1 ∨ k = 2 ∨ k = 3 := by omega
      · have e1 : cnt3 true false false 0 = 0 := rfl
        rw [e1]; clear e1
        go_wp2
        go_round
        case rel => exact ⟨1, by omega, rfl, rfl⟩
        case measure => simp [intOf]
      · have e1 : cnt3 true false false 1 = 1 := rfl
        rw [e1]; clear e1
        go_wp2
        go_round
        case rel => exact ⟨2, by omega, rfl, rfl⟩
        case measure => simp [intOf]
      · have e1 : cnt3 true false false 2 = 1 := rfl
        rw [e1]; clear e1
        go_wp2
        go_round
        case rel => exact ⟨3, by omega, rfl, rfl⟩
        case measure => simp [intOf]
      · have e1 : cnt3 true false false 3 = 1 := rfl
        rw [e1]; clear e1
        go_wp2
        go_ret
        exact ⟨rfl, D7.out.bel⟩
  · skip
    go_wp2_with fail
    refine (L01.out _).mono ?_
    rintro e w3 ⟨rfl, b3⟩
    have C3 := D2.out.on b3
    have D3 := Lib.hid C3
    obtain ⟨z3, _, ac00, ac01, ac02, ac10, ac11, ac12, ac20, ac21, ac22⟩ := C3
    clear b3
    go_wp2_with fail
    refine (L10.out _).mono ?_
    rintro e w4 ⟨rfl, b4⟩
    have C4 := D3.out.on b4
    have D4 := Lib.hid C4
    obtain ⟨z4, _, ac00, ac01, ac02, ac10, ac11, ac12, ac20, ac21, ac22⟩ := C4
    clear b4
    go_wp2_with fail
    refine (L12.out _).mono ?_
    rintro e w5 ⟨rfl, b5⟩
    have C5 := D4.out.on b5
    have D5 := Lib.hid C5
    obtain ⟨z5, _, ac00, ac01, ac02, ac10, ac11, ac12, ac20, ac21, ac22⟩ := C5
    clear b5
    go_wp2_with fail
    refine (L02.out _).mono ?_
    rintro e w6 ⟨rfl, b6⟩
    have C6 := D5.out.on b6
    have D6 := Lib.hid C6
    obtain ⟨z6, _, ac00, ac01, ac02, ac10, ac11, ac12, ac20, ac21, ac22⟩ := C6
    clear b6
    go_wp2_with fail
    refine (LR.out _).mono ?_
    rintro e w7 ⟨rfl, b7⟩
    have C7 := D6.out.on b7
    have D7 := Lib.hid C7
    obtain ⟨z7, _, ac00, ac01, ac02, ac10, ac11, ac12, ac20, ac21, ac22⟩ := C7
    clear b7
    go_wp2_with fail
    go_loop [15, 68] (fun n i => ∃ k : Nat, k ≤ 3 ∧ i = .int .i64 k ∧ n = .int .i64 (cnt3 true false false k)) (fun _ i => 3 - (intOf i).toNat)
    case atStart => exact ⟨0, by omega, rfl, rfl⟩
    case round =>
      obtain ⟨k, hk, rfl, rfl⟩ := hrel
      obtain rfl | rfl | rfl | rfl : k = 0 ∨ k = 1 ∨ k = 2 ∨ k = 3 := by omega
      · have e1 : cnt3 true false false 0 = 0 := rfl
        rw [e1]; clear e1
        go_wp2
        go_round
        case rel => exact ⟨1, by omega, rfl, rfl⟩
        case measure => simp [intOf]
      · have e1 : cnt3 true false false 1 = 1 := rfl
        rw [e1]; clear e1
        go_wp2
        go_round
        case rel => exact ⟨2, by omega, rfl, rfl⟩
        case measure => simp [intOf]
      · have e1 : cnt3 true false false 2 = 1 := rfl
        rw [e1]; clear e1
        go_wp2
        go_round
        case rel => exact ⟨3, by omega, rfl, rfl⟩
        case measure => simp [intOf]
      · have e1 : cnt3 true false false 3 = 1 := rfl
        rw [e1]; clear e1
        go_wp2
        go_ret
        exact ⟨rfl, D7.out.bel⟩
  · skip
    go_wp2_with fail
    refine (L01.out _).mono ?_
    rintro e w3 ⟨rfl, b3⟩
    have C3 := D2.out.on b3
    have D3 := Lib.hid C3
    obtain ⟨z3, _, ac00, ac01, ac02, ac10, ac11, ac12, ac20, ac21, ac22⟩ := C3
    clear b3
    go_wp2_with fail
    refine (L10.out _).mono ?_
    rintro e w4 ⟨rfl, b4⟩
    have C4 := D3.out.on b4
    have D4 := Lib.hid C4
    obtain ⟨z4, _, ac00, ac01, ac02, ac10, ac11, ac12, ac20, ac21, ac22⟩ := C4
    clear b4
    go_wp2_with fail
    refine (L12.out _).mono ?_
    rintro e w5 ⟨rfl, b5⟩
    have C5 := D4.out.on b5
    have D5 := Lib.hid C5
    obtain ⟨z5, _, ac00, ac01, ac02, ac10, ac11, ac12, ac20, ac21, ac22⟩ := C5
    clear b5
    go_wp2_with fail
    refine (L02.out _).mono ?_
    rintro e w6 ⟨rfl, b6⟩
    have C6 := D5.out.on b6
    have D6 := Lib.hid C6
    obtain ⟨z6, _, ac00, ac01, ac02, ac10, ac11, ac12, ac20, ac21, ac22⟩ := C6
    clear b6
    go_wp2_with fail
    refine (LR.out _).mono ?_
    rintro e w7 ⟨rfl, b7⟩
    have C7 := D6.out.on b7
    have D7 := Lib.hid C7
    obtain ⟨z7, _, ac00, ac01, ac02, ac10, ac11, ac12, ac20, ac21, ac22⟩ := C7
    clear b7
    go_wp2_with fail
    go_loop [15, 68] (fun n i => ∃ k : Nat, k ≤ 3 ∧ i = .int .i64 k ∧ n = .int .i64 (cnt3 false true false k)) (fun _ i => 3 - (intOf i).toNat)
    case atStart => exact ⟨0, by omega, rfl, rfl⟩
    case round =>
      obtain ⟨k, hk, rfl, rfl⟩ := hrel
      obtain rfl | rfl | rfl | rfl : k = 0 ∨ k = 1 ∨ k = 2 ∨ k = 3 := by omega
      · have e1 : cnt3 false true false 0 = 0 := rfl
        rw [e1]; clear e1
        go_wp2
        go_round
        case rel => exact ⟨1, by omega, rfl, rfl⟩
        case measure => simp [intOf]
      · have e1 : cnt3 false true false 1 = 0 := rfl
        rw [e1]; clear e1
        go_wp2
        go_round
        case rel => exact ⟨2, by omega, rfl, rfl⟩
        case measure => simp [intOf]
      · have e1 : cnt3 false true false 2 = 1 := rfl
        rw [e1]; clear e1
        go_wp2
        go_round
        case rel => exact ⟨3, by omega, rfl, rfl⟩
        case measure => simp [intOf]
      · have e1 : cnt3 false true false 3 = 1 := rfl
        rw [e1]; clear e1
        go_wp2
        go_ret
        exact ⟨rfl, D7.out.bel⟩
  · skip
    go_wp2_with fail
    refine (L01.out _).mono ?_
    rintro e w3 ⟨rfl, b3⟩
    have C3 := D2.out.on b3
    have D3 := Lib.hid C3
    obtain ⟨z3, _, ac00, ac01, ac02, ac10, ac11, ac12, ac20, ac21, ac22⟩ := C3
    clear b3
    go_wp2_with fail
    refine (L10.out _).mono ?_
    rintro e w4 ⟨rfl, b4⟩
    have C4 := D3.out.on b4
    have D4 := Lib.hid C4
    obtain ⟨z4, _, ac00, ac01, ac02, ac10, ac11, ac12, ac20, ac21, ac22⟩ := C4
    clear b4
    go_wp2_with fail
    refine (L12.out _).mono ?_
    rintro e w5 ⟨rfl, b5⟩
    have C5 := D4.out.on b5
    have D5 := Lib.hid C5
    obtain ⟨z5, _, ac00, ac01, ac02, ac10, ac11, ac12, ac20, ac21, ac22⟩ := C5
    clear b5
    go_wp2_with fail
    refine (L02.out _).mono ?_
    rintro e w6 ⟨rfl, b6⟩
    have C6 := D5.out.on b6
    have D6 := Lib.hid C6
    obtain ⟨z6, _, ac00, ac01, ac02, ac10, ac11, ac12, ac20, ac21, ac22⟩ := C6
    clear b6
    go_wp2_with fail
    refine (LR.out _).mono ?_
    rintro e w7 ⟨rfl, b7⟩
    have C7 := D6.out.on b7
    have D7 := Lib.hid C7
    obtain ⟨z7, _, ac00, ac01, ac02, ac10, ac11, ac12, ac20, ac21, ac22⟩ := C7
    clear b7
    go_wp2_with fail
    go_loop [15, 68] (fun n i => ∃ k : Nat, k ≤ 3 ∧ i = .int .i64 k ∧ n = .int .i64 (cnt3 false false true k)) (fun _ i => 3 - (intOf i).toNat)
    case atStart => exact ⟨0, by omega, rfl, rfl⟩
    case round =>
      obtain ⟨k, hk, rfl, rfl⟩ := hrel
      obtain rfl | rfl | rfl | rfl : k = 0 ∨ k = 1 ∨ k = 2 ∨ k = 3 := by omega
      · have e1 : cnt3 false false true 0 = 0 := rfl
        rw [e1]; clear e1
        go_wp2
        go_round
        case rel => exact ⟨1, by omega, rfl, rfl⟩
        case measure => simp [intOf]
      · have e1 : cnt3 false false true 1 = 0 := rfl
        rw [e1]; clear e1
        go_wp2
        go_round
        case rel => exact ⟨2, by omega, rfl, rfl⟩
        case measure => simp [intOf]
      · have e1 : cnt3 false false true 2 = 0 := rfl
        rw [e1]; clear e1
        go_wp2
        go_round
        case rel => exact ⟨3, by omega, rfl, rfl⟩
        case measure => simp [intOf]
      · have e1 : cnt3 false false true 3 = 1 := rfl
        rw [e1]; clear e1
        go_wp2
        go_ret
        exact ⟨rfl, D7.out.bel⟩

theorem bl_irr : ∀ l : List UInt8, Op.bytesLess l l = false
  | [] => rfl
  | a :: l => by simp [Op.bytesLess, bl_irr l]
theorem bl_tri : ∀ l m : List UInt8, l ≠ m → (Op.bytesLess l m = true ∧ Op.bytesLess m l = false) ∨ (Op.bytesLess l m = false ∧ Op.bytesLess m l = true)
  | [], [], h => absurd rfl h
  | [], _ :: _, _ => by simp [Op.bytesLess]
  | _ :: _, [], _ => by simp [Op.bytesLess]
  | a :: l, b :: m, h => by
    by_cases hab : a = b
    · subst hab
      have := bl_tri l m (fun e => h (by rw [e]))
      simpa [Op.bytesLess] using this
    · have h1 : (a == b) = false := beq_eq_false_iff_ne.2 hab
      have h2 : (b == a) = false := beq_eq_false_iff_ne.2 (fun e => hab e.symm)
      simp only [Op.bytesLess, h1, h2, Bool.false_and, Bool.or_false, decide_eq_true_eq, decide_eq_false_iff_not]
      have h3 : a.toNat ≠ b.toNat := fun e => hab (UInt8.toNat_inj.1 e)
      simp only [UInt8.lt_iff_toNat_lt]; omega
theorem bl_trans : ∀ l m n : List UInt8, Op.bytesLess l m = true → Op.bytesLess m n = true → Op.bytesLess l n = true
  | [], [], _, h, _ => by simp [Op.bytesLess] at h
  | [], _ :: _, [], _, h => by simp [Op.bytesLess] at h
  | [], _ :: _, _ :: _, _, _ => rfl
  | _ :: _, [], _, h, _ => by simp [Op.bytesLess] at h
  | _ :: _, _ :: _, [], _, h => by simp [Op.bytesLess] at h
  | a :: l, b :: m, c :: n, h, k => by
    have ih := bl_trans l m n
    simp only [Op.bytesLess, Bool.or_eq_true, decide_eq_true_eq, Bool.and_eq_true, beq_iff_eq, UInt8.lt_iff_toNat_lt] at h k ⊢
    rcases h with h | ⟨rfl, h⟩
    · rcases k with k | ⟨rfl, k⟩
      · left; omega
      · left; exact h
    · rcases k with k | ⟨rfl, k⟩
      · left; exact k
      · right; exact ⟨rfl, ih h k⟩
theorem fin_ok (k0 n0 k1 n1 k2 n2 : Int) (s0 s1 s2 : ByteArray) (ab ok ba is bc so ac too rb : Bool)
    (h01 : lessB k0 n0 s0 k1 n1 s1 = (ab, ok)) (h10 : lessB k1 n1 s1 k0 n0 s0 = (ba, is)) (h12 : lessB k1 n1 s1 k2 n2 s2 = (bc, so)) (h02 : lessB k0 n0 s0 k2 n2 s2 = (ac, too)) (hr : rawB k0 n0 s0 k1 n1 s1 = rb) :
    (ok = false ∧ is = false ∧ ab = false ∧ ba = false) ∨ (ok = true ∧ is = true ∧ (ab = true ∧ ba = false ∧ rb = false ∧ (bc = false ∨ bc = true ∧ so = true ∧ too = true ∧ ac = true) ∨ ab = false ∧ ba = true ∧ rb = false ∨ ab = false ∧ ba = false ∧ rb = true)) := by
  unfold lessB at h01 h10 h12 h02
  by_cases e : k0 = k1
  · subst e
    rw [if_pos rfl] at h01 h10
    by_cases e2 : k0 = 2
    · subst e2
      simp only [if_true, Prod.mk.injEq] at h01 h10
      obtain ⟨rfl, rfl⟩ := h01
      obtain ⟨rfl, rfl⟩ := h10
      right
      refine ⟨rfl, rfl, ?_⟩
      have er : rb = decide (n0 = n1) := by rw [← hr]; unfold rawB; rw [decide_eq_decide]; simp [ownN, ownS]
      rw [er]
      by_cases l1 : n0 < n1
      · left
        refine ⟨by simp [l1], by simp; omega, by simp; omega, ?_⟩
        by_cases e3 : (2 : Int) = k2
        · subst e3
          simp only [if_true, Prod.mk.injEq] at h12 h02
          obtain ⟨rfl, rfl⟩ := h12
          obtain ⟨rfl, rfl⟩ := h02
          by_cases l2 : n1 < n2
          · right; exact ⟨by simp [l2], rfl, rfl, by simp; omega⟩
          · left; simp [l2]
        · rw [if_neg e3] at h12; left; exact (Prod.mk.inj h12).1.symm
      · right
        by_cases l2 : n1 < n0
        · left; exact ⟨by simp; omega, by simp [l2], by simp; omega⟩
        · right; exact ⟨by simp; omega, by simp; omega, by simp; omega⟩
    by_cases e3 : k0 = 3
    · subst e3
      rw [if_neg (by decide), if_pos rfl] at h01 h10
      simp only [Prod.mk.injEq] at h01 h10
      obtain ⟨rfl, rfl⟩ := h01
      obtain ⟨rfl, rfl⟩ := h10
      right
      refine ⟨rfl, rfl, ?_⟩
      have er : rb = decide (s0 = s1) := by rw [← hr]; unfold rawB; rw [decide_eq_decide]; simp [ownN, ownS]
      rw [er]
      by_cases es : s0 = s1
      · subst es; right; right; exact ⟨bl_irr _, bl_irr _, by simp⟩
      · rcases bl_tri s0.toList s1.toList (fun h => es (toList_inj.1 h)) with ⟨l1, l2⟩ | ⟨l1, l2⟩
        · left
          refine ⟨l1, l2, by simp [es], ?_⟩
          by_cases e4 : (3 : Int) = k2
          · subst e4
            rw [if_pos rfl, if_neg (by decide), if_pos rfl] at h12 h02
            simp only [Prod.mk.injEq] at h12 h02
            obtain ⟨rfl, rfl⟩ := h12
            obtain ⟨rfl, rfl⟩ := h02
            cases l3 : Op.bytesLess s1.toList s2.toList with
            | true => right; exact ⟨rfl, rfl, rfl, bl_trans _ _ _ l1 l3⟩
            | false => left; rfl
          · rw [if_neg e4] at h12; left; exact (Prod.mk.inj h12).1.symm
        · right; left; exact ⟨l1, l2, by simp [es]⟩
    · rw [if_neg e2, if_neg e3] at h01 h10
      left
      exact ⟨(Prod.mk.inj h01).2.symm, (Prod.mk.inj h10).2.symm, (Prod.mk.inj h01).1.symm, (Prod.mk.inj h10).1.symm⟩
  · rw [if_neg e] at h01
    rw [if_neg (fun h => e h.symm)] at h10
    left
    exact ⟨(Prod.mk.inj h01).2.symm, (Prod.mk.inj h10).2.symm, (Prod.mk.inj h01).1.symm, (Prod.mk.inj h10).1.symm⟩
set_option maxHeartbeats 2000000 in
theorem great_case (k0 n0 k1 n1 k2 n2 : Int) (s0 s1 s2 : ByteArray) (w : World) (hT : Tab w) (hg : greatB [⟨k0, n0, s0⟩, ⟨k1, n1, s1⟩, ⟨k2, n2, s2⟩] = true) :
    Calls Tryd.prog 6 #[.agg #[.int .i64 k0, .int .i64 n0, .string s0], .agg #[.int .i64 k1, .int .i64 n1, .string s1], .agg #[.int .i64 k2, .int .i64 n2, .string s2]] w fun e w' => e = .returned (.bool true) ∧ Below w.heap.size w w' := by
  have C0 := C9.start w k0 n0 k1 n1 k2 n2 s0 s1 s2
  have gr := fun W => great_calls W ⟨k0, n0, s0⟩ ⟨k1, n1, s1⟩ ⟨k2, n2, s2⟩
  rw [hg] at gr
  have T0 := Lib.hid hT
  have D0 := Lib.hid C0
  have GR := Lib.hid gr
  clear hg hT C0 gr
  go_enter Tryd.func6, Tryd.ntmps6
  go_wp2_with fail
  refine (alive_calls _ (T0.out.on D0.out.bel)).mono ?_
  rintro e w1 ⟨rfl, b1⟩
  have C1 := D0.out.on b1
  have D1 := Lib.hid C1
  obtain ⟨z1, _, ac00, ac01, ac02, ac10, ac11, ac12, ac20, ac21, ac22⟩ := C1
  clear b1
  go_wp2_with fail
  refine (GR.out _).mono ?_
  rintro e w2 ⟨rfl, b2⟩
  have D2 := Lib.hid ((D1.out.alloc _).on (b2.mono (by simp)))
  clear b2
  go_wp2
  go_ret
  exact ⟨rfl, D2.out.bel⟩
theorem order_walk (k0 n0 k1 n1 k2 n2 : Int) (s0 s1 s2 : ByteArray) (w : World) (hT : Tab w) :
    Calls Tryd.prog 6 #[.agg #[.int .i64 k0, .int .i64 n0, .string s0], .agg #[.int .i64 k1, .int .i64 n1, .string s1], .agg #[.int .i64 k2, .int .i64 n2, .string s2]] w fun e w' => e = .returned (.bool true) ∧ Below w.heap.size w w' := by
  cases hg : greatB [⟨k0, n0, s0⟩, ⟨k1, n1, s1⟩, ⟨k2, n2, s2⟩] with
  | true => exact great_case k0 n0 k1 n1 k2 n2 s0 s1 s2 w hT hg
  | false => exact core k0 n0 k1 n1 k2 n2 s0 s1 s2 w hT _ _ _ _ _ _ _ _ _ hg rfl rfl rfl rfl rfl (fin_ok k0 n0 k1 n1 k2 n2 s0 s1 s2 _ _ _ _ _ _ _ _ _ rfl rfl rfl rfl rfl)
end Go.Proofs.YtbmenmcjlidadaaDoor.LawOrder
