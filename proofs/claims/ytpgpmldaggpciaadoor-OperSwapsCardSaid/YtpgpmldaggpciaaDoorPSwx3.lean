-- printed by a call of the kit's print.py over several functions of this seat (wip/pr.sh)
import Derived.Test.YtpgpmldaggpciaaDoorPSwx0
import Derived.Test.YtpgpmldaggpciaaDoorPSwx1
import Derived.Test.YtpgpmldaggpciaaDoorPSwx2
namespace Go.Proofs.YtpgpmldaggpciaaDoor.PSw
open Go.RowKit Go.Proofs.YtpgpmldaggpciaaDoorW.PrintWords Go.Proofs.YtpgpmldaggpciaaDoorW.PrintLast Go.Proofs.YtpgpmldaggpciaaDoorW.PrintMore
attribute [local go_sem] max2_int min2_int max_two min_two max_three min_three max_four min_four   -- for this text's walks alone
set_option linter.unusedVariables false
set_option linter.unusedSimpArgs false

attribute [local go_sem high] eqA32
/-! ### selkielaw11_OperSwaps: function 9 -/
mutual
def selkielaw11_OperSwaps.j0 : Nat → Int → Int → Int → Bool → Int → Int → ByteArray → Int → Int → ByteArray → Int → Int → ByteArray → Option (Bool)
  | 0, _, _, _, _, _, _, _, _, _, _, _, _, _ => none
  | k + 1, x7, x9, x10, x12, x104000, x104001, x104002, x105000, x105001, x105002, x115000, x115001, x115002 => (oper_Do.f x10 x104000 x104001 x104002 x105000 x105001 x105002 1048576).bind fun bt118 => (if x12 = true then ((value_Truth.f bt118.1 bt118.2.1 bt118.2.2.1).bind fun t123 => ((value_OfBool.f (!t123)).bind fun bt124 => (selkielaw11_OperSwaps.j1 k x7 x9 x10 bt118.2.2.2 x104000 x104001 x104002 x105000 x105001 x105002 x115000 x115001 x115002 bt124.1 bt124.2.1 bt124.2.2))) else (selkielaw11_OperSwaps.j1 k x7 x9 x10 bt118.2.2.2 x104000 x104001 x104002 x105000 x105001 x105002 x115000 x115001 x115002 bt118.1 bt118.2.1 bt118.2.2.1))
def selkielaw11_OperSwaps.j1 : Nat → Int → Int → Int → Int → Int → Int → ByteArray → Int → Int → ByteArray → Int → Int → ByteArray → Int → Int → ByteArray → Option (Bool)
  | 0, _, _, _, _, _, _, _, _, _, _, _, _, _, _, _, _ => none
  | k + 1, x7, x9, x10, x14, x104000, x104001, x104002, x105000, x105001, x105002, x115000, x115001, x115002, x123000, x123001, x123002 => if x9 = x14 then (if x9 = 0 then (if (!(x115000 == x123000) || (!(x115001 == x123001) || (!(x115002.toList == x123002.toList)))) = true then (selkielaw11_OperSwaps.j2 k x9 x10 true x104000 x104001 x104002 x105000 x105001 x105002) else ((oper_Event.f x7).bind fun t127 => ((oper_Event.f x10).bind fun t128 => (if t127.toList = t128.toList then ((oper_Event.f x7).bind fun t129 => (selkielaw11_OperSwaps.j2 k x9 x10 (t129.toList == ([] : List UInt8)) x104000 x104001 x104002 x105000 x105001 x105002)) else (selkielaw11_OperSwaps.j2 k x9 x10 true x104000 x104001 x104002 x105000 x105001 x105002))))) else ((oper_Event.f x7).bind fun t130 => ((oper_Event.f x10).bind fun t131 => (if t130.toList = t131.toList then ((oper_Event.f x7).bind fun t132 => (selkielaw11_OperSwaps.j2 k x9 x10 (t132.toList == ([] : List UInt8)) x104000 x104001 x104002 x105000 x105001 x105002)) else (selkielaw11_OperSwaps.j2 k x9 x10 true x104000 x104001 x104002 x105000 x105001 x105002))))) else (selkielaw11_OperSwaps.j2 k x9 x10 true x104000 x104001 x104002 x105000 x105001 x105002)
def selkielaw11_OperSwaps.j2 : Nat → Int → Int → Bool → Int → Int → ByteArray → Int → Int → ByteArray → Option (Bool)
  | 0, _, _, _, _, _, _, _, _, _ => none
  | k + 1, x9, x10, x79, x104000, x104001, x104002, x105000, x105001, x105002 => if x79 = true then (some false) else ((oper_Swap.f x10).bind fun bt133 => (if bt133.2.1 = true then (some false) else (if bt133.2.2 = true then (some false) else (if x9 = 18 then ((oper_Blame.f x10 x104000 x104001 x104002 x105000 x105001 x105002).bind fun t136 => (some (t136.toList != ([] : List UInt8)))) else (some true)))))
end
def selkielaw11_OperSwaps.f (k : Nat) (a0 : Int) (a1_0 : Int) (a1_1 : Int) (a1_2 : ByteArray) (a2_0 : Int) (a2_1 : Int) (a2_2 : ByteArray) : Option (Bool) := (selkielaw11_alive.f).bind fun t105 => (if t105 = true then ((selkielaw11_great.f k (([(⟨a1_0, a1_1, a1_2⟩ : S32), (⟨a2_0, a2_1, a2_2⟩ : S32)] : List (S32)))).bind fun t109 => (if t109 = true then (some true) else ((oper_Do.f (wrap64 (1 + (Int.tmod (wrap64 (a0)) 17))) a1_0 a1_1 a1_2 a2_0 a2_1 a2_2 1048576).bind fun bt110 => ((oper_Swap.f (wrap64 (1 + (Int.tmod (wrap64 (a0)) 17)))).bind fun bt115 => (if bt115.2.1 = true then (selkielaw11_OperSwaps.j0 k (wrap64 (1 + (Int.tmod (wrap64 (a0)) 17))) bt110.2.2.2 bt115.1 bt115.2.2 a2_0 a2_1 a2_2 a1_0 a1_1 a1_2 bt110.1 bt110.2.1 bt110.2.2.1) else (selkielaw11_OperSwaps.j0 k (wrap64 (1 + (Int.tmod (wrap64 (a0)) 17))) bt110.2.2.2 bt115.1 bt115.2.2 a1_0 a1_1 a1_2 a2_0 a2_1 a2_2 bt110.1 bt110.2.1 bt110.2.2.1)))))) else (some false))
theorem selkielaw11_OperSwaps.mono_l : ∀ k, (∀ y0 y1 y2 y3 y4 y5 y6 y7 y8 y9 y10 y11 y12, LeO (selkielaw11_OperSwaps.j0 k y0 y1 y2 y3 y4 y5 y6 y7 y8 y9 y10 y11 y12) (selkielaw11_OperSwaps.j0 (k + 1) y0 y1 y2 y3 y4 y5 y6 y7 y8 y9 y10 y11 y12)) ∧ (∀ y0 y1 y2 y3 y4 y5 y6 y7 y8 y9 y10 y11 y12 y13 y14 y15, LeO (selkielaw11_OperSwaps.j1 k y0 y1 y2 y3 y4 y5 y6 y7 y8 y9 y10 y11 y12 y13 y14 y15) (selkielaw11_OperSwaps.j1 (k + 1) y0 y1 y2 y3 y4 y5 y6 y7 y8 y9 y10 y11 y12 y13 y14 y15)) ∧ (∀ y0 y1 y2 y3 y4 y5 y6 y7 y8, LeO (selkielaw11_OperSwaps.j2 k y0 y1 y2 y3 y4 y5 y6 y7 y8) (selkielaw11_OperSwaps.j2 (k + 1) y0 y1 y2 y3 y4 y5 y6 y7 y8))
  | 0 => ⟨fun _ _ _ _ _ _ _ _ _ _ _ _ _ r h => by simp [selkielaw11_OperSwaps.j0] at h, fun _ _ _ _ _ _ _ _ _ _ _ _ _ _ _ _ r h => by simp [selkielaw11_OperSwaps.j1] at h, fun _ _ _ _ _ _ _ _ _ r h => by simp [selkielaw11_OperSwaps.j2] at h⟩
  | k + 1 => by
    obtain ⟨ih0, ih1, ih2⟩ := selkielaw11_OperSwaps.mono_l k
    refine ⟨?_, ?_, ?_⟩
    · intro y0 y1 y2 y3 y4 y5 y6 y7 y8 y9 y10 y11 y12
      unfold selkielaw11_OperSwaps.j0
      repeat' first
      | (with_reducible exact ih0 _ _ _ _ _ _ _ _ _ _ _ _ _)
      | (with_reducible exact ih1 _ _ _ _ _ _ _ _ _ _ _ _ _ _ _ _)
      | (with_reducible exact ih2 _ _ _ _ _ _ _ _ _)
      | (with_reducible exact selkielaw11_great.mono _ _)
      | (with_reducible exact LeO.refl _)
      | (with_reducible exact LeO.none _)
      | (with_reducible refine LeO.ite ?_ ?_)
      | (with_reducible refine LeO.bind ?_ (fun _ => ?_))
      | exact ih0 _ _ _ _ _ _ _ _ _ _ _ _ _
      | exact ih1 _ _ _ _ _ _ _ _ _ _ _ _ _ _ _ _
      | exact ih2 _ _ _ _ _ _ _ _ _
      | exact selkielaw11_great.mono _ _
      | exact LeO.none _
      | refine LeO.ite ?_ ?_
      | refine LeO.bind ?_ (fun _ => ?_)
    · intro y0 y1 y2 y3 y4 y5 y6 y7 y8 y9 y10 y11 y12 y13 y14 y15
      unfold selkielaw11_OperSwaps.j1
      repeat' first
      | (with_reducible exact ih0 _ _ _ _ _ _ _ _ _ _ _ _ _)
      | (with_reducible exact ih1 _ _ _ _ _ _ _ _ _ _ _ _ _ _ _ _)
      | (with_reducible exact ih2 _ _ _ _ _ _ _ _ _)
      | (with_reducible exact selkielaw11_great.mono _ _)
      | (with_reducible exact LeO.refl _)
      | (with_reducible exact LeO.none _)
      | (with_reducible refine LeO.ite ?_ ?_)
      | (with_reducible refine LeO.bind ?_ (fun _ => ?_))
      | exact ih0 _ _ _ _ _ _ _ _ _ _ _ _ _
      | exact ih1 _ _ _ _ _ _ _ _ _ _ _ _ _ _ _ _
      | exact ih2 _ _ _ _ _ _ _ _ _
      | exact selkielaw11_great.mono _ _
      | exact LeO.none _
      | refine LeO.ite ?_ ?_
      | refine LeO.bind ?_ (fun _ => ?_)
    · intro y0 y1 y2 y3 y4 y5 y6 y7 y8
      unfold selkielaw11_OperSwaps.j2
      repeat' first
      | (with_reducible exact ih0 _ _ _ _ _ _ _ _ _ _ _ _ _)
      | (with_reducible exact ih1 _ _ _ _ _ _ _ _ _ _ _ _ _ _ _ _)
      | (with_reducible exact ih2 _ _ _ _ _ _ _ _ _)
      | (with_reducible exact selkielaw11_great.mono _ _)
      | (with_reducible exact LeO.refl _)
      | (with_reducible exact LeO.none _)
      | (with_reducible refine LeO.ite ?_ ?_)
      | (with_reducible refine LeO.bind ?_ (fun _ => ?_))
      | exact ih0 _ _ _ _ _ _ _ _ _ _ _ _ _
      | exact ih1 _ _ _ _ _ _ _ _ _ _ _ _ _ _ _ _
      | exact ih2 _ _ _ _ _ _ _ _ _
      | exact selkielaw11_great.mono _ _
      | exact LeO.none _
      | refine LeO.ite ?_ ?_
      | refine LeO.bind ?_ (fun _ => ?_)
theorem selkielaw11_OperSwaps.mono : ∀ a0 a1 a2 a3 a4 a5 a6 k, LeO (selkielaw11_OperSwaps.f k a0 a1 a2 a3 a4 a5 a6) (selkielaw11_OperSwaps.f (k + 1) a0 a1 a2 a3 a4 a5 a6) := by
  intro a0 a1 a2 a3 a4 a5 a6 k
  obtain ⟨ih0, ih1, ih2⟩ := selkielaw11_OperSwaps.mono_l k
  unfold selkielaw11_OperSwaps.f
  repeat' first
      | (with_reducible exact ih0 _ _ _ _ _ _ _ _ _ _ _ _ _)
      | (with_reducible exact ih1 _ _ _ _ _ _ _ _ _ _ _ _ _ _ _ _)
      | (with_reducible exact ih2 _ _ _ _ _ _ _ _ _)
      | (with_reducible exact selkielaw11_great.mono _ _)
      | (with_reducible exact LeO.refl _)
      | (with_reducible exact LeO.none _)
      | (with_reducible refine LeO.ite ?_ ?_)
      | (with_reducible refine LeO.bind ?_ (fun _ => ?_))
      | exact ih0 _ _ _ _ _ _ _ _ _ _ _ _ _
      | exact ih1 _ _ _ _ _ _ _ _ _ _ _ _ _ _ _ _
      | exact ih2 _ _ _ _ _ _ _ _ _
      | exact selkielaw11_great.mono _ _
      | exact LeO.none _
      | refine LeO.ite ?_ ?_
      | refine LeO.bind ?_ (fun _ => ?_)
set_option maxHeartbeats 8000000 in
set_option maxRecDepth 100000 in
theorem selkielaw11_OperSwaps.calls (k : Nat) (a0 : Int) (a1_0 : Int) (a1_1 : Int) (a1_2 : ByteArray) (a2_0 : Int) (a2_1 : Int) (a2_2 : ByteArray) (r : Bool) (w : World) (hT : Go.Proofs.YtpgpmldaggpciaaDoor.TabW.Tab w) (hr : r = true) (h : selkielaw11_OperSwaps.f k a0 a1_0 a1_1 a1_2 a2_0 a2_1 a2_2 = some r) :
    Calls Tryd.prog 9 #[.int .u8 a0, .agg #[.int .i64 a1_0, .int .i64 a1_1, .string a1_2], .agg #[.int .i64 a2_0, .int .i64 a2_1, .string a2_2]] w fun e w' => e = .returned (.bool r) ∧ Below w.heap.size w w' := by
  have hu32 := Tryd.underlying32
  have HB := Aside0.mk (Below.refl w.heap.size w)
  have HR := Aside0.mk hr
  clear hr
  have HTT := Aside0.mk hT
  clear hT
  have H : ((selkielaw11_alive.f).bind fun t105 => (if t105 = true then ((selkielaw11_great.f k (([(⟨a1_0, a1_1, a1_2⟩ : S32), (⟨a2_0, a2_1, a2_2⟩ : S32)] : List (S32)))).bind fun t109 => (if t109 = true then (some true) else ((oper_Do.f (wrap64 (1 + (Int.tmod (wrap64 (a0)) 17))) a1_0 a1_1 a1_2 a2_0 a2_1 a2_2 1048576).bind fun bt110 => ((oper_Swap.f (wrap64 (1 + (Int.tmod (wrap64 (a0)) 17)))).bind fun bt115 => (if bt115.2.1 = true then (selkielaw11_OperSwaps.j0 k (wrap64 (1 + (Int.tmod (wrap64 (a0)) 17))) bt110.2.2.2 bt115.1 bt115.2.2 a2_0 a2_1 a2_2 a1_0 a1_1 a1_2 bt110.1 bt110.2.1 bt110.2.2.1) else (selkielaw11_OperSwaps.j0 k (wrap64 (1 + (Int.tmod (wrap64 (a0)) 17))) bt110.2.2.2 bt115.1 bt115.2.2 a1_0 a1_1 a1_2 a2_0 a2_1 a2_2 bt110.1 bt110.2.1 bt110.2.2.1)))))) else (some false))) = some r := h
  clear h
  replace H := Option.bind_eq_some_iff.mp H
  obtain ⟨t105, A40, H⟩ := H
  replace H : (if t105 = true then ((selkielaw11_great.f k (([(⟨a1_0, a1_1, a1_2⟩ : S32), (⟨a2_0, a2_1, a2_2⟩ : S32)] : List (S32)))).bind fun t109 => (if t109 = true then (some true) else ((oper_Do.f (wrap64 (1 + (Int.tmod (wrap64 (a0)) 17))) a1_0 a1_1 a1_2 a2_0 a2_1 a2_2 1048576).bind fun bt110 => ((oper_Swap.f (wrap64 (1 + (Int.tmod (wrap64 (a0)) 17)))).bind fun bt115 => (if bt115.2.1 = true then (selkielaw11_OperSwaps.j0 k (wrap64 (1 + (Int.tmod (wrap64 (a0)) 17))) bt110.2.2.2 bt115.1 bt115.2.2 a2_0 a2_1 a2_2 a1_0 a1_1 a1_2 bt110.1 bt110.2.1 bt110.2.2.1) else (selkielaw11_OperSwaps.j0 k (wrap64 (1 + (Int.tmod (wrap64 (a0)) 17))) bt110.2.2.2 bt115.1 bt115.2.2 a1_0 a1_1 a1_2 a2_0 a2_1 a2_2 bt110.1 bt110.2.1 bt110.2.2.1)))))) else (some false)) = some r := H
  have A4 := Aside0.mk A40
  clear A40
  by_cases c5 : t105 = true
  · subst c5
    have H1 : ((selkielaw11_great.f k (([(⟨a1_0, a1_1, a1_2⟩ : S32), (⟨a2_0, a2_1, a2_2⟩ : S32)] : List (S32)))).bind fun t109 => (if t109 = true then (some true) else ((oper_Do.f (wrap64 (1 + (Int.tmod (wrap64 (a0)) 17))) a1_0 a1_1 a1_2 a2_0 a2_1 a2_2 1048576).bind fun bt110 => ((oper_Swap.f (wrap64 (1 + (Int.tmod (wrap64 (a0)) 17)))).bind fun bt115 => (if bt115.2.1 = true then (selkielaw11_OperSwaps.j0 k (wrap64 (1 + (Int.tmod (wrap64 (a0)) 17))) bt110.2.2.2 bt115.1 bt115.2.2 a2_0 a2_1 a2_2 a1_0 a1_1 a1_2 bt110.1 bt110.2.1 bt110.2.2.1) else (selkielaw11_OperSwaps.j0 k (wrap64 (1 + (Int.tmod (wrap64 (a0)) 17))) bt110.2.2.2 bt115.1 bt115.2.2 a1_0 a1_1 a1_2 a2_0 a2_1 a2_2 bt110.1 bt110.2.1 bt110.2.2.1)))))) = some r := by rw [if_pos rfl] at H; exact H
    clear H
    have H := H1
    clear H1
    obtain ⟨y106, hy106⟩ : ∃ y_ : List (S32), y_ = (([(⟨a1_0, a1_1, a1_2⟩ : S32), (⟨a2_0, a2_1, a2_2⟩ : S32)] : List (S32))) := ⟨_, rfl⟩
    replace H : ((selkielaw11_great.f k y106).bind fun t109 => (if t109 = true then (some true) else ((oper_Do.f (wrap64 (1 + (Int.tmod (wrap64 (a0)) 17))) a1_0 a1_1 a1_2 a2_0 a2_1 a2_2 1048576).bind fun bt110 => ((oper_Swap.f (wrap64 (1 + (Int.tmod (wrap64 (a0)) 17)))).bind fun bt115 => (if bt115.2.1 = true then (selkielaw11_OperSwaps.j0 k (wrap64 (1 + (Int.tmod (wrap64 (a0)) 17))) bt110.2.2.2 bt115.1 bt115.2.2 a2_0 a2_1 a2_2 a1_0 a1_1 a1_2 bt110.1 bt110.2.1 bt110.2.2.1) else (selkielaw11_OperSwaps.j0 k (wrap64 (1 + (Int.tmod (wrap64 (a0)) 17))) bt110.2.2.2 bt115.1 bt115.2.2 a1_0 a1_1 a1_2 a2_0 a2_1 a2_2 bt110.1 bt110.2.1 bt110.2.2.1)))))) = some r := by first | (rw [hy106]; with_reducible exact H) | (have H2_ := (Option.bind_some _ _).symm.trans H; rw [hy106]; with_reducible exact H2_) | (have H2_ := (Option.bind_some _ _).symm.trans H; with_reducible exact H2_) | with_reducible exact H | (rw [hy106]; exact H) | exact H
    have Ny106 := Aside0.mk hy106
    clear hy106
    replace H := Option.bind_eq_some_iff.mp H
    obtain ⟨t109, A60, H⟩ := H
    replace H : (if t109 = true then (some true) else ((oper_Do.f (wrap64 (1 + (Int.tmod (wrap64 (a0)) 17))) a1_0 a1_1 a1_2 a2_0 a2_1 a2_2 1048576).bind fun bt110 => ((oper_Swap.f (wrap64 (1 + (Int.tmod (wrap64 (a0)) 17)))).bind fun bt115 => (if bt115.2.1 = true then (selkielaw11_OperSwaps.j0 k (wrap64 (1 + (Int.tmod (wrap64 (a0)) 17))) bt110.2.2.2 bt115.1 bt115.2.2 a2_0 a2_1 a2_2 a1_0 a1_1 a1_2 bt110.1 bt110.2.1 bt110.2.2.1) else (selkielaw11_OperSwaps.j0 k (wrap64 (1 + (Int.tmod (wrap64 (a0)) 17))) bt110.2.2.2 bt115.1 bt115.2.2 a1_0 a1_1 a1_2 a2_0 a2_1 a2_2 bt110.1 bt110.2.1 bt110.2.2.1))))) = some r := H
    have A6 := Aside0.mk A60
    clear A60
    by_cases c7 : t109 = true
    · subst c7
      have H1 : (some true) = some r := by rw [if_pos rfl] at H; exact H
      clear H
      have H := H1
      clear H1
      obtain rfl := Option.some.inj H
      go_enter Tryd.func9, Tryd.ntmps9
      go_wp2_with (first | ((with_reducible refine gate_dst (N := 4) rfl ?_); refine box_event ?hg (N := 4) ?hd (cs := #[.int .i64 a1_0, .int .i64 a1_1, .string a1_2]) (t := 32) ?hr ?_; (case hd => rfl); (case hg => rfl); (case hr => first | (go_simp; done) | (go_simp; rfl)); intro gb103 hg w8 hbox hb; have n0_ := Aside0.mk (below_step (by repeat (first | (with_reducible first | exact HB.out | apply below_alloc | apply pw_below_drewN | apply below_drew1) | exact HB.out)) hb); have n1_ := Aside0.mk (hbox); have n2_ := Aside0.mk ((by rw [hg]; exact (below_size (by repeat (first | (with_reducible first | exact HB.out | apply below_alloc | apply pw_below_drewN | apply below_drew1) | exact HB.out))) : w.heap.size ≤ gb103)); have n3_ := Aside0.mk ((by rw [hg]; exact (below_size (by repeat (first | (with_reducible first | exact HB.out | apply below_alloc | apply pw_below_drewN | apply below_drew1) | exact HB.out))) : w.heap.size ≤ gb103)); clear HB; have HB := n0_; have BK103 := n1_; have GW103 := n2_; have GE103 := n3_; clear n0_ n1_ n2_ n3_; clear hb hbox hg) | ((with_reducible refine gate_dst (N := 5) rfl ?_); refine box_event ?hg (N := 5) ?hd (cs := #[.int .i64 a2_0, .int .i64 a2_1, .string a2_2]) (t := 32) ?hr ?_; (case hd => rfl); (case hg => rfl); (case hr => first | (go_simp; done) | (go_simp; rfl)); intro gb104 hg w9 hbox hb; have n0_ := Aside0.mk (blk_below (g := gb103) (o := .cells #[.int .i64 a1_0, .int .i64 a1_1, .string a1_2] 32 (0, 0)) (by (with_reducible repeat (first | refine blk_drewN ?_ _ | refine blk_drew ?_ | refine blk_alloc ?_ _)); exact BK103.out) hb); have n1_ := Aside0.mk (below_step (by repeat (first | (with_reducible first | exact HB.out | apply below_alloc | apply pw_below_drewN | apply below_drew1 | refine below_set ?_ GE103.out) | exact HB.out)) hb); have n2_ := Aside0.mk (hbox); have n3_ := Aside0.mk ((by rw [hg]; exact (below_size (by repeat (first | (with_reducible first | exact HB.out | apply below_alloc | apply pw_below_drewN | apply below_drew1 | refine below_set ?_ GE103.out) | exact HB.out))) : w.heap.size ≤ gb104)); have n4_ := Aside0.mk ((by rw [hg]; exact (below_size (by repeat (first | (with_reducible first | exact HB.out | apply below_alloc | apply pw_below_drewN | apply below_drew1 | refine below_set ?_ GE103.out) | exact HB.out))) : w.heap.size ≤ gb104)); have n5_ := Aside0.mk ((by rw [hg]; exact Nat.ne_of_lt (blk_lt (g := gb103) (o := .cells #[.int .i64 a1_0, .int .i64 a1_1, .string a1_2] 32 (0, 0)) (by (with_reducible repeat (first | refine blk_drewN ?_ _ | refine blk_drew ?_ | refine blk_alloc ?_ _)); exact BK103.out)) : gb103 ≠ gb104)); have n6_ := Aside0.mk ((by rw [hg]; exact Nat.ne_of_gt (blk_lt (g := gb103) (o := .cells #[.int .i64 a1_0, .int .i64 a1_1, .string a1_2] 32 (0, 0)) (by (with_reducible repeat (first | refine blk_drewN ?_ _ | refine blk_drew ?_ | refine blk_alloc ?_ _)); exact BK103.out)) : gb104 ≠ gb103)); clear BK103; clear HB; have BK103 := n0_; have HB := n1_; have BK104 := n2_; have GW104 := n3_; have GE104 := n4_; have NB103_104 := n5_; have NB104_103 := n6_; clear n0_ n1_ n2_ n3_ n4_ n5_ n6_; clear hb hbox hg) | ((with_reducible refine gate_callee (f := 43) rfl ?_); refine goesL_ (some 18) rfl rfl Tryd.func43 (by kernel_rfl) rfl #[] rfl (by (try simp only [List.map_toArray, List.map_cons, List.map_nil]); first | done | rfl | (simp only [List.length_drop, List.length_take]; rfl)) ?_; (with_reducible refine (selkielaw11_alive.calls  true _ (HTT.out.on (by repeat (first | (with_reducible first | exact HB.out | apply below_alloc | apply pw_below_drewN | apply below_drew1 | refine below_set ?_ GE103.out | refine below_set ?_ GE104.out) | exact HB.out))) A4.out).mono ?_); rintro e w10 ⟨rfl, hb⟩; refine ⟨_, rfl, ?_⟩; have n0_ := Aside0.mk (blk_below (g := gb103) (o := .cells #[.int .i64 a1_0, .int .i64 a1_1, .string a1_2] 32 (0, 0)) (by (with_reducible repeat (first | refine blk_drewN ?_ _ | refine blk_drew ?_ | refine blk_alloc ?_ _)); exact BK103.out) hb); have n1_ := Aside0.mk (blk_below (g := gb104) (o := .cells #[.int .i64 a2_0, .int .i64 a2_1, .string a2_2] 32 (0, 0)) (by (with_reducible repeat (first | refine blk_drewN ?_ _ | refine blk_drew ?_ | refine blk_alloc ?_ _)); exact BK104.out) hb); have n2_ := Aside0.mk (below_step (by repeat (first | (with_reducible first | exact HB.out | apply below_alloc | apply pw_below_drewN | apply below_drew1 | refine below_set ?_ GE103.out | refine below_set ?_ GE104.out) | exact HB.out)) hb); clear BK103; clear BK104; clear HB; have BK103 := n0_; have BK104 := n1_; have HB := n2_; clear n0_ n1_ n2_; (try clear hb); (try clear hb2); (try clear hk); (try clear hi); have hnb11 := NB103_104.out; have hnc11 := NB104_103.out; have hcz12_0 : w10.cell? ⟨gb103, 0, none⟩ = some (.int .i64 a1_0) := (blk_cell BK103.out 0).trans rfl; have hcz12_1 : w10.cell? ⟨gb103, 1, none⟩ = some (.int .i64 a1_1) := (blk_cell BK103.out 1).trans rfl; have hcz12_2 : w10.cell? ⟨gb103, 2, none⟩ = some (.string a1_2) := (blk_cell BK103.out 2).trans rfl; have hfz12_0 := blk_frozen BK103.out 0; have hfz12_1 := blk_frozen BK103.out 1; have hfz12_2 := blk_frozen BK103.out 2; have hcz13_0 : w10.cell? ⟨gb104, 0, none⟩ = some (.int .i64 a2_0) := (blk_cell BK104.out 0).trans rfl; have hcz13_1 : w10.cell? ⟨gb104, 1, none⟩ = some (.int .i64 a2_1) := (blk_cell BK104.out 1).trans rfl; have hcz13_2 : w10.cell? ⟨gb104, 2, none⟩ = some (.string a2_2) := (blk_cell BK104.out 2).trans rfl; have hfz13_0 := blk_frozen BK104.out 0; have hfz13_1 := blk_frozen BK104.out 1; have hfz13_2 := blk_frozen BK104.out 2) | ((with_reducible refine gate_dst (N := 22) rfl ?_); refine Kd.R_lit k32 _ 32 ?hg (N := 22) ?hd (xs := ([(⟨a1_0, a1_1, a1_2⟩ : S32), (⟨a2_0, a2_1, a2_2⟩ : S32)] : List (S32))) (inner := [.int .i64 a1_0, .int .i64 a1_1, .string a1_2, .int .i64 a2_0, .int .i64 a2_1, .string a2_2]) (ok := fun _ => True) (okp := fun _ => True) ?hr ?hp (fun _ hk => hk) trivial (Below.refl _ _) (Nat.le_refl _) (by simp) ?_; (case hd => rfl); (case hg => rfl); (case hr => first | (go_simp; done) | (go_simp; rfl)); (case hp => exact (Reps.c3 (show Kd.M k32 _ _ _ (⟨a1_0, a1_1, a1_2⟩ : S32) [.int .i64 a1_0, .int .i64 a1_1, .string a1_2] from (k32_mkM _ _ _ (⟨a1_0, a1_1, a1_2⟩ : S32) )) (Reps.c3 (show Kd.M k32 _ _ _ (⟨a2_0, a2_1, a2_2⟩ : S32) [.int .i64 a2_0, .int .i64 a2_1, .string a2_2] from (k32_mkM _ _ _ (⟨a2_0, a2_1, a2_2⟩ : S32) )) (Reps.none _ _)))); intro v107 w14 ho15 hb hg_ hnew_; clear hg_ hnew_; (first | rw [← Ny106.out] at ho15 | (simp only [Int.reduceToNat] at ho15; rw [← Ny106.out] at ho15)); have n0_ := Aside0.mk (Kd.R_lower (Kd.R_newB (Kd.R_newB ho15 (g := gb103) (o := .cells #[.int .i64 a1_0, .int .i64 a1_1, .string a1_2] 32 (0, 0)) (by (with_reducible repeat (first | refine blk_drewN ?_ _ | refine blk_drew ?_ | refine blk_alloc ?_ _)); exact BK103.out)) (g := gb104) (o := .cells #[.int .i64 a2_0, .int .i64 a2_1, .string a2_2] 32 (0, 0)) (by (with_reducible repeat (first | refine blk_drewN ?_ _ | refine blk_drew ?_ | refine blk_alloc ?_ _)); exact BK104.out)) (below_size (by repeat (first | (with_reducible first | exact HB.out | apply below_alloc | apply pw_below_drewN | apply below_drew1 | refine below_set ?_ GE103.out | refine below_set ?_ GE104.out) | exact HB.out)))); have n1_ := Aside0.mk (blk_below (g := gb103) (o := .cells #[.int .i64 a1_0, .int .i64 a1_1, .string a1_2] 32 (0, 0)) (by (with_reducible repeat (first | refine blk_drewN ?_ _ | refine blk_drew ?_ | refine blk_alloc ?_ _)); exact BK103.out) hb); have n2_ := Aside0.mk (blk_below (g := gb104) (o := .cells #[.int .i64 a2_0, .int .i64 a2_1, .string a2_2] 32 (0, 0)) (by (with_reducible repeat (first | refine blk_drewN ?_ _ | refine blk_drew ?_ | refine blk_alloc ?_ _)); exact BK104.out) hb); have n3_ := Aside0.mk (below_step (by repeat (first | (with_reducible first | exact HB.out | apply below_alloc | apply pw_below_drewN | apply below_drew1 | refine below_set ?_ GE103.out | refine below_set ?_ GE104.out) | exact HB.out)) hb); clear BK103; clear BK104; clear HB; have HO108 := n0_; have BK103 := n1_; have BK104 := n2_; have HB := n3_; clear n0_ n1_ n2_ n3_; clear hb ho15; obtain ⟨Ao16, co16, eo16⟩ := Kd.R_slice HO108.out; subst eo16) | ((with_reducible refine gate_callee (f := 44) rfl ?_); refine goesL_ (some 23) rfl rfl Tryd.func44 (by kernel_rfl) rfl #[.slice Ao16 y106.length co16] rfl (by (try simp only [List.map_toArray, List.map_cons, List.map_nil]); first | done | rfl | (simp only [List.length_drop, List.length_take]; rfl)) ?_; (with_reducible refine (selkielaw11_great.calls k _ _ y106 true _ ?side1 ?side2 A6.out).mono ?_); (case side1 => repeat (first | exact (Kd.R_reads' HO108.out).2.2 | (with_reducible refine Kd.C_alloc ?_ _) | (with_reducible refine Kd.C_drewN ?_ _) | (with_reducible refine Kd.C_drew ?_))); (case side2 => exact (Kd.R_reads' HO108.out).2.1); rintro e w17 ⟨rfl, hb⟩; refine ⟨_, rfl, ?_⟩; have n0_ := Aside0.mk (Kd.R_below (by (with_reducible repeat (first | apply Kd.R_alloc | apply Kd.R_drewN | apply Kd.R_drew)); exact HO108.out) hb); have n1_ := Aside0.mk (blk_below (g := gb103) (o := .cells #[.int .i64 a1_0, .int .i64 a1_1, .string a1_2] 32 (0, 0)) (by (with_reducible repeat (first | refine blk_drewN ?_ _ | refine blk_drew ?_ | refine blk_alloc ?_ _)); exact BK103.out) hb); have n2_ := Aside0.mk (blk_below (g := gb104) (o := .cells #[.int .i64 a2_0, .int .i64 a2_1, .string a2_2] 32 (0, 0)) (by (with_reducible repeat (first | refine blk_drewN ?_ _ | refine blk_drew ?_ | refine blk_alloc ?_ _)); exact BK104.out) hb); have n3_ := Aside0.mk (below_step (by repeat (first | (with_reducible first | exact HB.out | apply below_alloc | apply pw_below_drewN | apply below_drew1 | refine below_set ?_ GE103.out | refine below_set ?_ GE104.out) | exact HB.out)) hb); clear HO108; clear BK103; clear BK104; clear HB; have HO108 := n0_; have BK103 := n1_; have BK104 := n2_; have HB := n3_; clear n0_ n1_ n2_ n3_; (try clear hb); (try clear hb2); (try clear hk); (try clear hi)))
      go_ret
      exact ⟨by first | rfl | (simp [errW_none, errW_some] <;> rfl) | (simp [*, errW_none, errW_some] <;> rfl) | (simp; exact TabW.bclose2 _), by repeat (first | (with_reducible first | exact HB.out | apply below_alloc | apply pw_below_drewN | apply below_drew1 | refine below_set ?_ GE103.out | refine below_set ?_ GE104.out) | exact HB.out)⟩
    · replace c7 := Bool.eq_false_iff.mpr c7
      subst c7
      have H1 : ((oper_Do.f (wrap64 (1 + (Int.tmod (wrap64 (a0)) 17))) a1_0 a1_1 a1_2 a2_0 a2_1 a2_2 1048576).bind fun bt110 => ((oper_Swap.f (wrap64 (1 + (Int.tmod (wrap64 (a0)) 17)))).bind fun bt115 => (if bt115.2.1 = true then (selkielaw11_OperSwaps.j0 k (wrap64 (1 + (Int.tmod (wrap64 (a0)) 17))) bt110.2.2.2 bt115.1 bt115.2.2 a2_0 a2_1 a2_2 a1_0 a1_1 a1_2 bt110.1 bt110.2.1 bt110.2.2.1) else (selkielaw11_OperSwaps.j0 k (wrap64 (1 + (Int.tmod (wrap64 (a0)) 17))) bt110.2.2.2 bt115.1 bt115.2.2 a1_0 a1_1 a1_2 a2_0 a2_1 a2_2 bt110.1 bt110.2.1 bt110.2.2.1)))) = some r := by rw [if_neg (show ¬ (false = true) by decide)] at H; exact H
      clear H
      have H := H1
      clear H1
      replace H := Option.bind_eq_some_iff.mp H
      obtain ⟨⟨t110, t111, t112, t113⟩, A180, H⟩ := H
      replace H : ((oper_Swap.f (wrap64 (1 + (Int.tmod (wrap64 (a0)) 17)))).bind fun bt115 => (if bt115.2.1 = true then (selkielaw11_OperSwaps.j0 k (wrap64 (1 + (Int.tmod (wrap64 (a0)) 17))) t113 bt115.1 bt115.2.2 a2_0 a2_1 a2_2 a1_0 a1_1 a1_2 t110 t111 t112) else (selkielaw11_OperSwaps.j0 k (wrap64 (1 + (Int.tmod (wrap64 (a0)) 17))) t113 bt115.1 bt115.2.2 a1_0 a1_1 a1_2 a2_0 a2_1 a2_2 t110 t111 t112))) = some r := H
      have A18 := Aside0.mk A180
      clear A180
      replace H := Option.bind_eq_some_iff.mp H
      obtain ⟨⟨t115, t116, t117⟩, A190, H⟩ := H
      replace H : (if t116 = true then (selkielaw11_OperSwaps.j0 k (wrap64 (1 + (Int.tmod (wrap64 (a0)) 17))) t113 t115 t117 a2_0 a2_1 a2_2 a1_0 a1_1 a1_2 t110 t111 t112) else (selkielaw11_OperSwaps.j0 k (wrap64 (1 + (Int.tmod (wrap64 (a0)) 17))) t113 t115 t117 a1_0 a1_1 a1_2 a2_0 a2_1 a2_2 t110 t111 t112)) = some r := H
      have A19 := Aside0.mk A190
      clear A190
      have HC20 := Aside0.mk H
      clear H
      go_enter Tryd.func9, Tryd.ntmps9
      go_upto_if 41 with (first | ((with_reducible refine gate_dst (N := 4) rfl ?_); refine box_event ?hg (N := 4) ?hd (cs := #[.int .i64 a1_0, .int .i64 a1_1, .string a1_2]) (t := 32) ?hr ?_; (case hd => rfl); (case hg => rfl); (case hr => first | (go_simp; done) | (go_simp; rfl)); intro gb103 hg w21 hbox hb; have n0_ := Aside0.mk (below_step (by repeat (first | (with_reducible first | exact HB.out | apply below_alloc | apply pw_below_drewN | apply below_drew1) | exact HB.out)) hb); have n1_ := Aside0.mk (hbox); have n2_ := Aside0.mk ((by rw [hg]; exact (below_size (by repeat (first | (with_reducible first | exact HB.out | apply below_alloc | apply pw_below_drewN | apply below_drew1) | exact HB.out))) : w.heap.size ≤ gb103)); have n3_ := Aside0.mk ((by rw [hg]; exact (below_size (by repeat (first | (with_reducible first | exact HB.out | apply below_alloc | apply pw_below_drewN | apply below_drew1) | exact HB.out))) : w.heap.size ≤ gb103)); clear HB; have HB := n0_; have BK103 := n1_; have GW103 := n2_; have GE103 := n3_; clear n0_ n1_ n2_ n3_; clear hb hbox hg) | ((with_reducible refine gate_dst (N := 5) rfl ?_); refine box_event ?hg (N := 5) ?hd (cs := #[.int .i64 a2_0, .int .i64 a2_1, .string a2_2]) (t := 32) ?hr ?_; (case hd => rfl); (case hg => rfl); (case hr => first | (go_simp; done) | (go_simp; rfl)); intro gb104 hg w22 hbox hb; have n0_ := Aside0.mk (blk_below (g := gb103) (o := .cells #[.int .i64 a1_0, .int .i64 a1_1, .string a1_2] 32 (0, 0)) (by (with_reducible repeat (first | refine blk_drewN ?_ _ | refine blk_drew ?_ | refine blk_alloc ?_ _)); exact BK103.out) hb); have n1_ := Aside0.mk (below_step (by repeat (first | (with_reducible first | exact HB.out | apply below_alloc | apply pw_below_drewN | apply below_drew1 | refine below_set ?_ GE103.out) | exact HB.out)) hb); have n2_ := Aside0.mk (hbox); have n3_ := Aside0.mk ((by rw [hg]; exact (below_size (by repeat (first | (with_reducible first | exact HB.out | apply below_alloc | apply pw_below_drewN | apply below_drew1 | refine below_set ?_ GE103.out) | exact HB.out))) : w.heap.size ≤ gb104)); have n4_ := Aside0.mk ((by rw [hg]; exact (below_size (by repeat (first | (with_reducible first | exact HB.out | apply below_alloc | apply pw_below_drewN | apply below_drew1 | refine below_set ?_ GE103.out) | exact HB.out))) : w.heap.size ≤ gb104)); have n5_ := Aside0.mk ((by rw [hg]; exact Nat.ne_of_lt (blk_lt (g := gb103) (o := .cells #[.int .i64 a1_0, .int .i64 a1_1, .string a1_2] 32 (0, 0)) (by (with_reducible repeat (first | refine blk_drewN ?_ _ | refine blk_drew ?_ | refine blk_alloc ?_ _)); exact BK103.out)) : gb103 ≠ gb104)); have n6_ := Aside0.mk ((by rw [hg]; exact Nat.ne_of_gt (blk_lt (g := gb103) (o := .cells #[.int .i64 a1_0, .int .i64 a1_1, .string a1_2] 32 (0, 0)) (by (with_reducible repeat (first | refine blk_drewN ?_ _ | refine blk_drew ?_ | refine blk_alloc ?_ _)); exact BK103.out)) : gb104 ≠ gb103)); clear BK103; clear HB; have BK103 := n0_; have HB := n1_; have BK104 := n2_; have GW104 := n3_; have GE104 := n4_; have NB103_104 := n5_; have NB104_103 := n6_; clear n0_ n1_ n2_ n3_ n4_ n5_ n6_; clear hb hbox hg) | ((with_reducible refine gate_callee (f := 43) rfl ?_); refine goesL_ (some 18) rfl rfl Tryd.func43 (by kernel_rfl) rfl #[] rfl (by (try simp only [List.map_toArray, List.map_cons, List.map_nil]); first | done | rfl | (simp only [List.length_drop, List.length_take]; rfl)) ?_; (with_reducible refine (selkielaw11_alive.calls  true _ (HTT.out.on (by repeat (first | (with_reducible first | exact HB.out | apply below_alloc | apply pw_below_drewN | apply below_drew1 | refine below_set ?_ GE103.out | refine below_set ?_ GE104.out) | exact HB.out))) A4.out).mono ?_); rintro e w23 ⟨rfl, hb⟩; refine ⟨_, rfl, ?_⟩; have n0_ := Aside0.mk (blk_below (g := gb103) (o := .cells #[.int .i64 a1_0, .int .i64 a1_1, .string a1_2] 32 (0, 0)) (by (with_reducible repeat (first | refine blk_drewN ?_ _ | refine blk_drew ?_ | refine blk_alloc ?_ _)); exact BK103.out) hb); have n1_ := Aside0.mk (blk_below (g := gb104) (o := .cells #[.int .i64 a2_0, .int .i64 a2_1, .string a2_2] 32 (0, 0)) (by (with_reducible repeat (first | refine blk_drewN ?_ _ | refine blk_drew ?_ | refine blk_alloc ?_ _)); exact BK104.out) hb); have n2_ := Aside0.mk (below_step (by repeat (first | (with_reducible first | exact HB.out | apply below_alloc | apply pw_below_drewN | apply below_drew1 | refine below_set ?_ GE103.out | refine below_set ?_ GE104.out) | exact HB.out)) hb); clear BK103; clear BK104; clear HB; have BK103 := n0_; have BK104 := n1_; have HB := n2_; clear n0_ n1_ n2_; (try clear hb); (try clear hb2); (try clear hk); (try clear hi); have hnb24 := NB103_104.out; have hnc24 := NB104_103.out; have hcz25_0 : w23.cell? ⟨gb103, 0, none⟩ = some (.int .i64 a1_0) := (blk_cell BK103.out 0).trans rfl; have hcz25_1 : w23.cell? ⟨gb103, 1, none⟩ = some (.int .i64 a1_1) := (blk_cell BK103.out 1).trans rfl; have hcz25_2 : w23.cell? ⟨gb103, 2, none⟩ = some (.string a1_2) := (blk_cell BK103.out 2).trans rfl; have hfz25_0 := blk_frozen BK103.out 0; have hfz25_1 := blk_frozen BK103.out 1; have hfz25_2 := blk_frozen BK103.out 2; have hcz26_0 : w23.cell? ⟨gb104, 0, none⟩ = some (.int .i64 a2_0) := (blk_cell BK104.out 0).trans rfl; have hcz26_1 : w23.cell? ⟨gb104, 1, none⟩ = some (.int .i64 a2_1) := (blk_cell BK104.out 1).trans rfl; have hcz26_2 : w23.cell? ⟨gb104, 2, none⟩ = some (.string a2_2) := (blk_cell BK104.out 2).trans rfl; have hfz26_0 := blk_frozen BK104.out 0; have hfz26_1 := blk_frozen BK104.out 1; have hfz26_2 := blk_frozen BK104.out 2) | ((with_reducible refine gate_dst (N := 22) rfl ?_); refine Kd.R_lit k32 _ 32 ?hg (N := 22) ?hd (xs := ([(⟨a1_0, a1_1, a1_2⟩ : S32), (⟨a2_0, a2_1, a2_2⟩ : S32)] : List (S32))) (inner := [.int .i64 a1_0, .int .i64 a1_1, .string a1_2, .int .i64 a2_0, .int .i64 a2_1, .string a2_2]) (ok := fun _ => True) (okp := fun _ => True) ?hr ?hp (fun _ hk => hk) trivial (Below.refl _ _) (Nat.le_refl _) (by simp) ?_; (case hd => rfl); (case hg => rfl); (case hr => first | (go_simp; done) | (go_simp; rfl)); (case hp => exact (Reps.c3 (show Kd.M k32 _ _ _ (⟨a1_0, a1_1, a1_2⟩ : S32) [.int .i64 a1_0, .int .i64 a1_1, .string a1_2] from (k32_mkM _ _ _ (⟨a1_0, a1_1, a1_2⟩ : S32) )) (Reps.c3 (show Kd.M k32 _ _ _ (⟨a2_0, a2_1, a2_2⟩ : S32) [.int .i64 a2_0, .int .i64 a2_1, .string a2_2] from (k32_mkM _ _ _ (⟨a2_0, a2_1, a2_2⟩ : S32) )) (Reps.none _ _)))); intro v107 w27 ho28 hb hg_ hnew_; clear hg_ hnew_; (first | rw [← Ny106.out] at ho28 | (simp only [Int.reduceToNat] at ho28; rw [← Ny106.out] at ho28)); have n0_ := Aside0.mk (Kd.R_lower (Kd.R_newB (Kd.R_newB ho28 (g := gb103) (o := .cells #[.int .i64 a1_0, .int .i64 a1_1, .string a1_2] 32 (0, 0)) (by (with_reducible repeat (first | refine blk_drewN ?_ _ | refine blk_drew ?_ | refine blk_alloc ?_ _)); exact BK103.out)) (g := gb104) (o := .cells #[.int .i64 a2_0, .int .i64 a2_1, .string a2_2] 32 (0, 0)) (by (with_reducible repeat (first | refine blk_drewN ?_ _ | refine blk_drew ?_ | refine blk_alloc ?_ _)); exact BK104.out)) (below_size (by repeat (first | (with_reducible first | exact HB.out | apply below_alloc | apply pw_below_drewN | apply below_drew1 | refine below_set ?_ GE103.out | refine below_set ?_ GE104.out) | exact HB.out)))); have n1_ := Aside0.mk (blk_below (g := gb103) (o := .cells #[.int .i64 a1_0, .int .i64 a1_1, .string a1_2] 32 (0, 0)) (by (with_reducible repeat (first | refine blk_drewN ?_ _ | refine blk_drew ?_ | refine blk_alloc ?_ _)); exact BK103.out) hb); have n2_ := Aside0.mk (blk_below (g := gb104) (o := .cells #[.int .i64 a2_0, .int .i64 a2_1, .string a2_2] 32 (0, 0)) (by (with_reducible repeat (first | refine blk_drewN ?_ _ | refine blk_drew ?_ | refine blk_alloc ?_ _)); exact BK104.out) hb); have n3_ := Aside0.mk (below_step (by repeat (first | (with_reducible first | exact HB.out | apply below_alloc | apply pw_below_drewN | apply below_drew1 | refine below_set ?_ GE103.out | refine below_set ?_ GE104.out) | exact HB.out)) hb); clear BK103; clear BK104; clear HB; have HO108 := n0_; have BK103 := n1_; have BK104 := n2_; have HB := n3_; clear n0_ n1_ n2_ n3_; clear hb ho28; obtain ⟨Ao29, co29, eo29⟩ := Kd.R_slice HO108.out; subst eo29) | ((with_reducible refine gate_callee (f := 44) rfl ?_); refine goesL_ (some 23) rfl rfl Tryd.func44 (by kernel_rfl) rfl #[.slice Ao29 y106.length co29] rfl (by (try simp only [List.map_toArray, List.map_cons, List.map_nil]); first | done | rfl | (simp only [List.length_drop, List.length_take]; rfl)) ?_; (with_reducible refine (selkielaw11_great.calls k _ _ y106 false _ ?side1 ?side2 A6.out).mono ?_); (case side1 => repeat (first | exact (Kd.R_reads' HO108.out).2.2 | (with_reducible refine Kd.C_alloc ?_ _) | (with_reducible refine Kd.C_drewN ?_ _) | (with_reducible refine Kd.C_drew ?_))); (case side2 => exact (Kd.R_reads' HO108.out).2.1); rintro e w30 ⟨rfl, hb⟩; refine ⟨_, rfl, ?_⟩; have n0_ := Aside0.mk (Kd.R_below (by (with_reducible repeat (first | apply Kd.R_alloc | apply Kd.R_drewN | apply Kd.R_drew)); exact HO108.out) hb); have n1_ := Aside0.mk (blk_below (g := gb103) (o := .cells #[.int .i64 a1_0, .int .i64 a1_1, .string a1_2] 32 (0, 0)) (by (with_reducible repeat (first | refine blk_drewN ?_ _ | refine blk_drew ?_ | refine blk_alloc ?_ _)); exact BK103.out) hb); have n2_ := Aside0.mk (blk_below (g := gb104) (o := .cells #[.int .i64 a2_0, .int .i64 a2_1, .string a2_2] 32 (0, 0)) (by (with_reducible repeat (first | refine blk_drewN ?_ _ | refine blk_drew ?_ | refine blk_alloc ?_ _)); exact BK104.out) hb); have n3_ := Aside0.mk (below_step (by repeat (first | (with_reducible first | exact HB.out | apply below_alloc | apply pw_below_drewN | apply below_drew1 | refine below_set ?_ GE103.out | refine below_set ?_ GE104.out) | exact HB.out)) hb); clear HO108; clear BK103; clear BK104; clear HB; have HO108 := n0_; have BK103 := n1_; have BK104 := n2_; have HB := n3_; clear n0_ n1_ n2_ n3_; (try clear hb); (try clear hb2); (try clear hk); (try clear hi); have hcz31_0 : w30.cell? ⟨gb103, 0, none⟩ = some (.int .i64 a1_0) := (blk_cell BK103.out 0).trans rfl; have hcz31_1 : w30.cell? ⟨gb103, 1, none⟩ = some (.int .i64 a1_1) := (blk_cell BK103.out 1).trans rfl; have hcz31_2 : w30.cell? ⟨gb103, 2, none⟩ = some (.string a1_2) := (blk_cell BK103.out 2).trans rfl; have hfz31_0 := blk_frozen BK103.out 0; have hfz31_1 := blk_frozen BK103.out 1; have hfz31_2 := blk_frozen BK103.out 2; have hcz32_0 : w30.cell? ⟨gb104, 0, none⟩ = some (.int .i64 a2_0) := (blk_cell BK104.out 0).trans rfl; have hcz32_1 : w30.cell? ⟨gb104, 1, none⟩ = some (.int .i64 a2_1) := (blk_cell BK104.out 1).trans rfl; have hcz32_2 : w30.cell? ⟨gb104, 2, none⟩ = some (.string a2_2) := (blk_cell BK104.out 2).trans rfl; have hfz32_0 := blk_frozen BK104.out 0; have hfz32_1 := blk_frozen BK104.out 1; have hfz32_2 := blk_frozen BK104.out 2) | ((with_reducible refine gate_callee (f := 46) rfl ?_); refine goesL_ (some 32) rfl rfl Tryd.func46 (by kernel_rfl) rfl #[.int .i64 (wrap64 (1 + (Int.tmod (wrap64 (a0)) 17))), .agg #[.int .i64 a1_0, .int .i64 a1_1, .string a1_2], .agg #[.int .i64 a2_0, .int .i64 a2_1, .string a2_2], .int .i64 1048576] rfl (by (try simp only [List.map_toArray, List.map_cons, List.map_nil]); first | done | rfl | (simp only [List.length_drop, List.length_take]; rfl)) ?_; (with_reducible refine (oper_Do.calls (wrap64 (1 + (Int.tmod (wrap64 (a0)) 17))) a1_0 a1_1 a1_2 a2_0 a2_1 a2_2 1048576 t110 t111 t112 t113 _ (HTT.out.on (by repeat (first | (with_reducible first | exact HB.out | apply below_alloc | apply pw_below_drewN | apply below_drew1 | refine below_set ?_ GE103.out | refine below_set ?_ GE104.out) | exact HB.out))) A18.out).mono ?_); rintro e w33 ⟨rfl, hb⟩; refine ⟨_, rfl, ?_⟩; have n0_ := Aside0.mk (Kd.R_below (by (with_reducible repeat (first | apply Kd.R_alloc | apply Kd.R_drewN | apply Kd.R_drew)); exact HO108.out) hb); have n1_ := Aside0.mk (blk_below (g := gb103) (o := .cells #[.int .i64 a1_0, .int .i64 a1_1, .string a1_2] 32 (0, 0)) (by (with_reducible repeat (first | refine blk_drewN ?_ _ | refine blk_drew ?_ | refine blk_alloc ?_ _)); exact BK103.out) hb); have n2_ := Aside0.mk (blk_below (g := gb104) (o := .cells #[.int .i64 a2_0, .int .i64 a2_1, .string a2_2] 32 (0, 0)) (by (with_reducible repeat (first | refine blk_drewN ?_ _ | refine blk_drew ?_ | refine blk_alloc ?_ _)); exact BK104.out) hb); have n3_ := Aside0.mk (below_step (by repeat (first | (with_reducible first | exact HB.out | apply below_alloc | apply pw_below_drewN | apply below_drew1 | refine below_set ?_ GE103.out | refine below_set ?_ GE104.out) | exact HB.out)) hb); clear HO108; clear BK103; clear BK104; clear HB; have HO108 := n0_; have BK103 := n1_; have BK104 := n2_; have HB := n3_; clear n0_ n1_ n2_ n3_; (try clear hb); (try clear hb2); (try clear hk); (try clear hi)) | ((with_reducible refine gate_dst (N := 8) rfl ?_); refine box_event ?hg (N := 8) ?hd (cs := #[.int .i64 0, .int .i64 0, .string (⟨#[]⟩ : ByteArray)]) (t := 32) ?hr ?_; (case hd => rfl); (case hg => rfl); (case hr => first | (go_simp; done) | (go_simp; rfl)); intro gb114 hg w34 hbox hb; have n0_ := Aside0.mk (Kd.R_below (Kd.R_elderB (by (with_reducible repeat (first | apply Kd.R_alloc | apply Kd.R_drewN | apply Kd.R_drew)); exact HO108.out) gb114 (Nat.le_of_eq hg.symm)) hb); have n1_ := Aside0.mk (blk_below (g := gb103) (o := .cells #[.int .i64 a1_0, .int .i64 a1_1, .string a1_2] 32 (0, 0)) (by (with_reducible repeat (first | refine blk_drewN ?_ _ | refine blk_drew ?_ | refine blk_alloc ?_ _)); exact BK103.out) hb); have n2_ := Aside0.mk (blk_below (g := gb104) (o := .cells #[.int .i64 a2_0, .int .i64 a2_1, .string a2_2] 32 (0, 0)) (by (with_reducible repeat (first | refine blk_drewN ?_ _ | refine blk_drew ?_ | refine blk_alloc ?_ _)); exact BK104.out) hb); have n3_ := Aside0.mk (below_step (by repeat (first | (with_reducible first | exact HB.out | apply below_alloc | apply pw_below_drewN | apply below_drew1 | refine below_set ?_ GE103.out | refine below_set ?_ GE104.out) | exact HB.out)) hb); have n4_ := Aside0.mk (hbox); have n5_ := Aside0.mk ((by rw [hg]; exact (below_size (by repeat (first | (with_reducible first | exact HB.out | apply below_alloc | apply pw_below_drewN | apply below_drew1 | refine below_set ?_ GE103.out | refine below_set ?_ GE104.out) | exact HB.out))) : w.heap.size ≤ gb114)); have n6_ := Aside0.mk ((by rw [hg]; exact (below_size (by repeat (first | (with_reducible first | exact HB.out | apply below_alloc | apply pw_below_drewN | apply below_drew1 | refine below_set ?_ GE103.out | refine below_set ?_ GE104.out) | exact HB.out))) : w.heap.size ≤ gb114)); have n7_ := Aside0.mk ((by rw [hg]; exact Nat.ne_of_lt (blk_lt (g := gb103) (o := .cells #[.int .i64 a1_0, .int .i64 a1_1, .string a1_2] 32 (0, 0)) (by (with_reducible repeat (first | refine blk_drewN ?_ _ | refine blk_drew ?_ | refine blk_alloc ?_ _)); exact BK103.out)) : gb103 ≠ gb114)); have n8_ := Aside0.mk ((by rw [hg]; exact Nat.ne_of_gt (blk_lt (g := gb103) (o := .cells #[.int .i64 a1_0, .int .i64 a1_1, .string a1_2] 32 (0, 0)) (by (with_reducible repeat (first | refine blk_drewN ?_ _ | refine blk_drew ?_ | refine blk_alloc ?_ _)); exact BK103.out)) : gb114 ≠ gb103)); have n9_ := Aside0.mk ((by rw [hg]; exact Nat.ne_of_lt (blk_lt (g := gb104) (o := .cells #[.int .i64 a2_0, .int .i64 a2_1, .string a2_2] 32 (0, 0)) (by (with_reducible repeat (first | refine blk_drewN ?_ _ | refine blk_drew ?_ | refine blk_alloc ?_ _)); exact BK104.out)) : gb104 ≠ gb114)); have n10_ := Aside0.mk ((by rw [hg]; exact Nat.ne_of_gt (blk_lt (g := gb104) (o := .cells #[.int .i64 a2_0, .int .i64 a2_1, .string a2_2] 32 (0, 0)) (by (with_reducible repeat (first | refine blk_drewN ?_ _ | refine blk_drew ?_ | refine blk_alloc ?_ _)); exact BK104.out)) : gb114 ≠ gb104)); clear HO108; clear BK103; clear BK104; clear HB; have HO108 := n0_; have BK103 := n1_; have BK104 := n2_; have HB := n3_; have BK114 := n4_; have GW114 := n5_; have GE114 := n6_; have NB103_114 := n7_; have NB114_103 := n8_; have NB104_114 := n9_; have NB114_104 := n10_; clear n0_ n1_ n2_ n3_ n4_ n5_ n6_ n7_ n8_ n9_ n10_; clear hb hbox hg; have hnb35 := NB114_103.out; have hnc35 := NB103_114.out; have hnb36 := NB114_104.out; have hnc36 := NB104_114.out; have hcz37_0 : w34.cell? ⟨gb114, 0, none⟩ = some (.int .i64 0) := (blk_cell BK114.out 0).trans rfl; have hcz37_1 : w34.cell? ⟨gb114, 1, none⟩ = some (.int .i64 0) := (blk_cell BK114.out 1).trans rfl; have hcz37_2 : w34.cell? ⟨gb114, 2, none⟩ = some (.string (⟨#[]⟩ : ByteArray)) := (blk_cell BK114.out 2).trans rfl; have hfz37_0 := blk_frozen BK114.out 0; have hfz37_1 := blk_frozen BK114.out 1; have hfz37_2 := blk_frozen BK114.out 2) | ((with_reducible refine gate_callee (f := 48) rfl ?_); refine goesL_ (some 37) rfl rfl Tryd.func48 (by kernel_rfl) rfl #[.int .i64 (wrap64 (1 + (Int.tmod (wrap64 (a0)) 17)))] rfl (by (try simp only [List.map_toArray, List.map_cons, List.map_nil]); first | done | rfl | (simp only [List.length_drop, List.length_take]; rfl)) ?_; (with_reducible refine (oper_Swap.calls (wrap64 (1 + (Int.tmod (wrap64 (a0)) 17))) t115 t116 t117 _ A19.out).mono ?_); rintro e w38 ⟨rfl, hb⟩; refine ⟨_, rfl, ?_⟩; have n0_ := Aside0.mk (Kd.R_below (by (with_reducible repeat (first | apply Kd.R_alloc | apply Kd.R_drewN | apply Kd.R_drew)); exact (Kd.R_mono (Kd.R_far (p := ⟨gb114, 2, none⟩) (Kd.R_far (p := ⟨gb114, 1, none⟩) (Kd.R_far (p := ⟨gb114, 0, none⟩) (Kd.R_mono HO108.out (fun k_ hk => (⟨hk, hk.2⟩ : _ ∧ k_ ≠ gb114))) (fun _ hk => hk.2) (.int .i64 t110)) (fun _ hk => hk.2) (.int .i64 t111)) (fun _ hk => hk.2) (.string t112)) (fun _ h_ => h_.1))) hb); have n1_ := Aside0.mk (blk_below (g := gb103) (o := .cells #[.int .i64 a1_0, .int .i64 a1_1, .string a1_2] 32 (0, 0)) (by (with_reducible repeat (first | refine blk_drewN ?_ _ | refine blk_drew ?_ | refine blk_alloc ?_ _)); refine blk_far ?_ NB103_114.out _; (with_reducible repeat (first | refine blk_drewN ?_ _ | refine blk_drew ?_ | refine blk_alloc ?_ _)); refine blk_far ?_ NB103_114.out _; (with_reducible repeat (first | refine blk_drewN ?_ _ | refine blk_drew ?_ | refine blk_alloc ?_ _)); refine blk_far ?_ NB103_114.out _; (with_reducible repeat (first | refine blk_drewN ?_ _ | refine blk_drew ?_ | refine blk_alloc ?_ _)); exact BK103.out) hb); have n2_ := Aside0.mk (blk_below (g := gb104) (o := .cells #[.int .i64 a2_0, .int .i64 a2_1, .string a2_2] 32 (0, 0)) (by (with_reducible repeat (first | refine blk_drewN ?_ _ | refine blk_drew ?_ | refine blk_alloc ?_ _)); refine blk_far ?_ NB104_114.out _; (with_reducible repeat (first | refine blk_drewN ?_ _ | refine blk_drew ?_ | refine blk_alloc ?_ _)); refine blk_far ?_ NB104_114.out _; (with_reducible repeat (first | refine blk_drewN ?_ _ | refine blk_drew ?_ | refine blk_alloc ?_ _)); refine blk_far ?_ NB104_114.out _; (with_reducible repeat (first | refine blk_drewN ?_ _ | refine blk_drew ?_ | refine blk_alloc ?_ _)); exact BK104.out) hb); have n3_ := Aside0.mk (blk_below (g := gb114) (o := .cells #[.int .i64 t110, .int .i64 t111, .string t112] 32 (0, 0)) (by (with_reducible repeat (first | refine blk_drewN ?_ _ | refine blk_drew ?_ | refine blk_alloc ?_ _)); refine blk_put (cs := #[.int .i64 t110, .int .i64 t111, .string (⟨#[]⟩ : ByteArray)]) ?_ 2 _ rfl; (with_reducible repeat (first | refine blk_drewN ?_ _ | refine blk_drew ?_ | refine blk_alloc ?_ _)); refine blk_put (cs := #[.int .i64 t110, .int .i64 0, .string (⟨#[]⟩ : ByteArray)]) ?_ 1 _ rfl; (with_reducible repeat (first | refine blk_drewN ?_ _ | refine blk_drew ?_ | refine blk_alloc ?_ _)); refine blk_put (cs := #[.int .i64 0, .int .i64 0, .string (⟨#[]⟩ : ByteArray)]) ?_ 0 _ rfl; (with_reducible repeat (first | refine blk_drewN ?_ _ | refine blk_drew ?_ | refine blk_alloc ?_ _)); exact BK114.out) hb); have n4_ := Aside0.mk (below_step (by repeat (first | (with_reducible first | exact HB.out | apply below_alloc | apply pw_below_drewN | apply below_drew1 | refine below_set ?_ GE103.out | refine below_set ?_ GE104.out | refine below_set ?_ GE114.out) | exact HB.out)) hb); clear HO108; clear BK103; clear BK104; clear BK114; clear HB; have HO108 := n0_; have BK103 := n1_; have BK104 := n2_; have BK114 := n3_; have HB := n4_; clear n0_ n1_ n2_ n3_ n4_; (try clear hb); (try clear hb2); (try clear hk); (try clear hi)))
      (try simp only [Act.put, List.setIfInBounds_toArray, List.set_cons_zero, List.set_cons_succ])
      go_cut [] (fun wc => ∃ (kq : Nat) (x104000_19 : Int) (x104001_19 : Int) (x104002_19 : ByteArray) (x105000_19 : Int) (x105001_19 : Int) (x105002_19 : ByteArray), Aside0 (selkielaw11_OperSwaps.j0 kq (wrap64 (1 + (Int.tmod (wrap64 (a0)) 17))) t113 t115 t117 x104000_19 x104001_19 x104002_19 x105000_19 x105001_19 x105002_19 t110 t111 t112 = some r) ∧ Aside0 (kq ≤ k) ∧ Aside0 (wc.heap[gb103]? = some (.cells #[.int .i64 x104000_19, .int .i64 x104001_19, .string x104002_19] 32 (0, 0))) ∧ Aside0 (wc.heap[gb104]? = some (.cells #[.int .i64 x105000_19, .int .i64 x105001_19, .string x105002_19] 32 (0, 0))) ∧ Aside0 (wc.heap[gb114]? = some (.cells #[.int .i64 t110, .int .i64 t111, .string t112] 32 (0, 0))) ∧ Aside0 (Below w.heap.size w wc))
      case first =>
        have H := HC20.out
        clear HC20
        by_cases c39 : t116 = true
        · subst c39
          have H1 : (selkielaw11_OperSwaps.j0 k (wrap64 (1 + (Int.tmod (wrap64 (a0)) 17))) t113 t115 t117 a2_0 a2_1 a2_2 a1_0 a1_1 a1_2 t110 t111 t112) = some r := by rw [if_pos rfl] at H; exact H
          clear H
          have H := H1
          clear H1
          have H' := Aside0.mk H
          clear H
          have hnb40 := NB104_103.out
          have hnc40 := NB103_104.out
          have hnb41 := NB104_114.out
          have hnc41 := NB114_104.out
          have hcz42_0 : w38.cell? ⟨gb104, 0, none⟩ = some (.int .i64 a2_0) := (blk_cell BK104.out 0).trans rfl
          have hcz42_1 : w38.cell? ⟨gb104, 1, none⟩ = some (.int .i64 a2_1) := (blk_cell BK104.out 1).trans rfl
          have hcz42_2 : w38.cell? ⟨gb104, 2, none⟩ = some (.string a2_2) := (blk_cell BK104.out 2).trans rfl
          have hfz42_0 := blk_frozen BK104.out 0
          have hfz42_1 := blk_frozen BK104.out 1
          have hfz42_2 := blk_frozen BK104.out 2
          have hnb43 := NB103_114.out
          have hnc43 := NB114_103.out
          have hcz44_0 : w38.cell? ⟨gb103, 0, none⟩ = some (.int .i64 a1_0) := (blk_cell BK103.out 0).trans rfl
          have hcz44_1 : w38.cell? ⟨gb103, 1, none⟩ = some (.int .i64 a1_1) := (blk_cell BK103.out 1).trans rfl
          have hcz44_2 : w38.cell? ⟨gb103, 2, none⟩ = some (.string a1_2) := (blk_cell BK103.out 2).trans rfl
          have hfz44_0 := blk_frozen BK103.out 0
          have hfz44_1 := blk_frozen BK103.out 1
          have hfz44_2 := blk_frozen BK103.out 2
          go_wp2
          go_meet
          case rel => exact ⟨_, (a2_0), (a2_1), (a2_2), (a1_0), (a1_1), (a1_2), H', ⟨by first | omega | exact Nat.le_refl _⟩, ⟨by (with_reducible repeat (first | refine blk_drewN ?_ _ | refine blk_drew ?_ | refine blk_alloc ?_ _)); refine blk_far ?_ NB103_104.out _; (with_reducible repeat (first | refine blk_drewN ?_ _ | refine blk_drew ?_ | refine blk_alloc ?_ _)); refine blk_far ?_ NB103_104.out _; (with_reducible repeat (first | refine blk_drewN ?_ _ | refine blk_drew ?_ | refine blk_alloc ?_ _)); refine blk_far ?_ NB103_104.out _; (with_reducible repeat (first | refine blk_drewN ?_ _ | refine blk_drew ?_ | refine blk_alloc ?_ _)); refine blk_put (cs := #[.int .i64 a2_0, .int .i64 a2_1, .string a1_2]) ?_ 2 _ rfl; (with_reducible repeat (first | refine blk_drewN ?_ _ | refine blk_drew ?_ | refine blk_alloc ?_ _)); refine blk_put (cs := #[.int .i64 a2_0, .int .i64 a1_1, .string a1_2]) ?_ 1 _ rfl; (with_reducible repeat (first | refine blk_drewN ?_ _ | refine blk_drew ?_ | refine blk_alloc ?_ _)); refine blk_put (cs := #[.int .i64 a1_0, .int .i64 a1_1, .string a1_2]) ?_ 0 _ rfl; (with_reducible repeat (first | refine blk_drewN ?_ _ | refine blk_drew ?_ | refine blk_alloc ?_ _)); exact BK103.out⟩, ⟨by (with_reducible repeat (first | refine blk_drewN ?_ _ | refine blk_drew ?_ | refine blk_alloc ?_ _)); refine blk_put (cs := #[.int .i64 a1_0, .int .i64 a1_1, .string a2_2]) ?_ 2 _ rfl; (with_reducible repeat (first | refine blk_drewN ?_ _ | refine blk_drew ?_ | refine blk_alloc ?_ _)); refine blk_put (cs := #[.int .i64 a1_0, .int .i64 a2_1, .string a2_2]) ?_ 1 _ rfl; (with_reducible repeat (first | refine blk_drewN ?_ _ | refine blk_drew ?_ | refine blk_alloc ?_ _)); refine blk_put (cs := #[.int .i64 a2_0, .int .i64 a2_1, .string a2_2]) ?_ 0 _ rfl; (with_reducible repeat (first | refine blk_drewN ?_ _ | refine blk_drew ?_ | refine blk_alloc ?_ _)); refine blk_far ?_ NB104_103.out _; (with_reducible repeat (first | refine blk_drewN ?_ _ | refine blk_drew ?_ | refine blk_alloc ?_ _)); refine blk_far ?_ NB104_103.out _; (with_reducible repeat (first | refine blk_drewN ?_ _ | refine blk_drew ?_ | refine blk_alloc ?_ _)); refine blk_far ?_ NB104_103.out _; (with_reducible repeat (first | refine blk_drewN ?_ _ | refine blk_drew ?_ | refine blk_alloc ?_ _)); exact BK104.out⟩, ⟨by (with_reducible repeat (first | refine blk_drewN ?_ _ | refine blk_drew ?_ | refine blk_alloc ?_ _)); refine blk_far ?_ NB114_104.out _; (with_reducible repeat (first | refine blk_drewN ?_ _ | refine blk_drew ?_ | refine blk_alloc ?_ _)); refine blk_far ?_ NB114_104.out _; (with_reducible repeat (first | refine blk_drewN ?_ _ | refine blk_drew ?_ | refine blk_alloc ?_ _)); refine blk_far ?_ NB114_104.out _; (with_reducible repeat (first | refine blk_drewN ?_ _ | refine blk_drew ?_ | refine blk_alloc ?_ _)); refine blk_far ?_ NB114_103.out _; (with_reducible repeat (first | refine blk_drewN ?_ _ | refine blk_drew ?_ | refine blk_alloc ?_ _)); refine blk_far ?_ NB114_103.out _; (with_reducible repeat (first | refine blk_drewN ?_ _ | refine blk_drew ?_ | refine blk_alloc ?_ _)); refine blk_far ?_ NB114_103.out _; (with_reducible repeat (first | refine blk_drewN ?_ _ | refine blk_drew ?_ | refine blk_alloc ?_ _)); exact BK114.out⟩, ⟨by repeat (first | (with_reducible first | exact HB.out | apply below_alloc | apply pw_below_drewN | apply below_drew1 | refine below_set ?_ GE103.out | refine below_set ?_ GE104.out | refine below_set ?_ GE114.out) | exact HB.out)⟩⟩
        · replace c39 := Bool.eq_false_iff.mpr c39
          subst c39
          have H1 : (selkielaw11_OperSwaps.j0 k (wrap64 (1 + (Int.tmod (wrap64 (a0)) 17))) t113 t115 t117 a1_0 a1_1 a1_2 a2_0 a2_1 a2_2 t110 t111 t112) = some r := by rw [if_neg (show ¬ (false = true) by decide)] at H; exact H
          clear H
          have H := H1
          clear H1
          have H' := Aside0.mk H
          clear H
          go_wp2
          go_meet
          case rel => exact ⟨_, (a1_0), (a1_1), (a1_2), (a2_0), (a2_1), (a2_2), H', ⟨by first | omega | exact Nat.le_refl _⟩, ⟨by (with_reducible repeat (first | refine blk_drewN ?_ _ | refine blk_drew ?_ | refine blk_alloc ?_ _)); exact BK103.out⟩, ⟨by (with_reducible repeat (first | refine blk_drewN ?_ _ | refine blk_drew ?_ | refine blk_alloc ?_ _)); exact BK104.out⟩, ⟨by (with_reducible repeat (first | refine blk_drewN ?_ _ | refine blk_drew ?_ | refine blk_alloc ?_ _)); exact BK114.out⟩, ⟨by repeat (first | (with_reducible first | exact HB.out | apply below_alloc | apply pw_below_drewN | apply below_drew1 | refine below_set ?_ GE103.out | refine below_set ?_ GE104.out | refine below_set ?_ GE114.out) | exact HB.out)⟩⟩
      case rest =>
        clear HC20
        try clear c1
        try clear c2
        try clear p2
        try clear c3
        try clear c4
        try clear c5
        try clear p6
        try clear c7
        try clear c9
        try clear c11
        try clear c24
        try clear c35
        try clear c36
        try clear c39
        try clear c40
        try clear c41
        try clear c43
        try clear c44
        try clear hcz12_0
        try clear hcz12_1
        try clear hcz12_2
        try clear hcz13_0
        try clear hcz13_1
        try clear hcz13_2
        try clear hcz25_0
        try clear hcz25_1
        try clear hcz25_2
        try clear hcz26_0
        try clear hcz26_1
        try clear hcz26_2
        try clear hcz31_0
        try clear hcz31_1
        try clear hcz31_2
        try clear hcz32_0
        try clear hcz32_1
        try clear hcz32_2
        try clear hcz37_0
        try clear hcz37_1
        try clear hcz37_2
        try clear hcz42_0
        try clear hcz42_1
        try clear hcz42_2
        try clear hcz44_0
        try clear hcz44_1
        try clear hcz44_2
        try clear hfz12_0
        try clear hfz12_1
        try clear hfz12_2
        try clear hfz13_0
        try clear hfz13_1
        try clear hfz13_2
        try clear hfz25_0
        try clear hfz25_1
        try clear hfz25_2
        try clear hfz26_0
        try clear hfz26_1
        try clear hfz26_2
        try clear hfz31_0
        try clear hfz31_1
        try clear hfz31_2
        try clear hfz32_0
        try clear hfz32_1
        try clear hfz32_2
        try clear hfz37_0
        try clear hfz37_1
        try clear hfz37_2
        try clear hfz42_0
        try clear hfz42_1
        try clear hfz42_2
        try clear hfz44_0
        try clear hfz44_1
        try clear hfz44_2
        obtain ⟨kq, x104000_19, x104001_19, x104002_19, x105000_19, x105001_19, x105002_19, HA, HJ19, BK103, BK104, BK114, HB⟩ := hcut
        cases kq with
        | zero => exact absurd HA.out (by simp [selkielaw11_OperSwaps.j0])
        | succ kj19 =>
          have H := HA.out
          clear HA
          simp only [selkielaw11_OperSwaps.j0] at H
          replace H := Option.bind_eq_some_iff.mp H
          obtain ⟨⟨t118, t119, t120, t121⟩, A450, H⟩ := H
          replace H : (if t117 = true then ((value_Truth.f t118 t119 t120).bind fun t123 => ((value_OfBool.f (!t123)).bind fun bt124 => (selkielaw11_OperSwaps.j1 kj19 (wrap64 (1 + (Int.tmod (wrap64 (a0)) 17))) t113 t115 t121 x104000_19 x104001_19 x104002_19 x105000_19 x105001_19 x105002_19 t110 t111 t112 bt124.1 bt124.2.1 bt124.2.2))) else (selkielaw11_OperSwaps.j1 kj19 (wrap64 (1 + (Int.tmod (wrap64 (a0)) 17))) t113 t115 t121 x104000_19 x104001_19 x104002_19 x105000_19 x105001_19 x105002_19 t110 t111 t112 t118 t119 t120)) = some r := H
          have A45 := Aside0.mk A450
          clear A450
          have HC46 := Aside0.mk H
          clear H
          have hnb47 := NB103_104.out
          have hnc47 := NB104_103.out
          have hnb48 := NB103_114.out
          have hnc48 := NB114_103.out
          have hcz49_0 : wc.cell? ⟨gb103, 0, none⟩ = some (.int .i64 x104000_19) := (blk_cell BK103.out 0).trans rfl
          have hcz49_1 : wc.cell? ⟨gb103, 1, none⟩ = some (.int .i64 x104001_19) := (blk_cell BK103.out 1).trans rfl
          have hcz49_2 : wc.cell? ⟨gb103, 2, none⟩ = some (.string x104002_19) := (blk_cell BK103.out 2).trans rfl
          have hfz49_0 := blk_frozen BK103.out 0
          have hfz49_1 := blk_frozen BK103.out 1
          have hfz49_2 := blk_frozen BK103.out 2
          have hnb50 := NB104_114.out
          have hnc50 := NB114_104.out
          have hcz51_0 : wc.cell? ⟨gb104, 0, none⟩ = some (.int .i64 x105000_19) := (blk_cell BK104.out 0).trans rfl
          have hcz51_1 : wc.cell? ⟨gb104, 1, none⟩ = some (.int .i64 x105001_19) := (blk_cell BK104.out 1).trans rfl
          have hcz51_2 : wc.cell? ⟨gb104, 2, none⟩ = some (.string x105002_19) := (blk_cell BK104.out 2).trans rfl
          have hfz51_0 := blk_frozen BK104.out 0
          have hfz51_1 := blk_frozen BK104.out 1
          have hfz51_2 := blk_frozen BK104.out 2
          go_upto_if 51 with (first | ((with_reducible refine gate_callee (f := 46) rfl ?_); refine goesL_ (some 48) rfl rfl Tryd.func46 (by kernel_rfl) rfl #[.int .i64 t115, .agg #[.int .i64 x104000_19, .int .i64 x104001_19, .string x104002_19], .agg #[.int .i64 x105000_19, .int .i64 x105001_19, .string x105002_19], .int .i64 1048576] rfl (by (try simp only [List.map_toArray, List.map_cons, List.map_nil]); first | done | rfl | (simp only [List.length_drop, List.length_take]; rfl)) ?_; (with_reducible refine (oper_Do.calls t115 x104000_19 x104001_19 x104002_19 x105000_19 x105001_19 x105002_19 1048576 t118 t119 t120 t121 _ (HTT.out.on (by repeat (first | (with_reducible first | exact HB.out | apply below_alloc | apply pw_below_drewN | apply below_drew1 | refine below_set ?_ GE103.out | refine below_set ?_ GE104.out | refine below_set ?_ GE114.out) | exact HB.out))) A45.out).mono ?_); rintro e w52 ⟨rfl, hb⟩; refine ⟨_, rfl, ?_⟩; have n0_ := Aside0.mk (blk_below (g := gb103) (o := .cells #[.int .i64 x104000_19, .int .i64 x104001_19, .string x104002_19] 32 (0, 0)) (by (with_reducible repeat (first | refine blk_drewN ?_ _ | refine blk_drew ?_ | refine blk_alloc ?_ _)); exact BK103.out) hb); have n1_ := Aside0.mk (blk_below (g := gb104) (o := .cells #[.int .i64 x105000_19, .int .i64 x105001_19, .string x105002_19] 32 (0, 0)) (by (with_reducible repeat (first | refine blk_drewN ?_ _ | refine blk_drew ?_ | refine blk_alloc ?_ _)); exact BK104.out) hb); have n2_ := Aside0.mk (blk_below (g := gb114) (o := .cells #[.int .i64 t110, .int .i64 t111, .string t112] 32 (0, 0)) (by (with_reducible repeat (first | refine blk_drewN ?_ _ | refine blk_drew ?_ | refine blk_alloc ?_ _)); exact BK114.out) hb); have n3_ := Aside0.mk (below_step (by repeat (first | (with_reducible first | exact HB.out | apply below_alloc | apply pw_below_drewN | apply below_drew1 | refine below_set ?_ GE103.out | refine below_set ?_ GE104.out | refine below_set ?_ GE114.out) | exact HB.out)) hb); clear BK103; clear BK104; clear BK114; clear HB; have BK103 := n0_; have BK104 := n1_; have BK114 := n2_; have HB := n3_; clear n0_ n1_ n2_ n3_; (try clear hb); (try clear hb2); (try clear hk); (try clear hi)) | ((with_reducible refine gate_dst (N := 13) rfl ?_); refine box_event ?hg (N := 13) ?hd (cs := #[.int .i64 0, .int .i64 0, .string (⟨#[]⟩ : ByteArray)]) (t := 32) ?hr ?_; (case hd => rfl); (case hg => rfl); (case hr => first | (go_simp; done) | (go_simp; rfl)); intro gb122 hg w53 hbox hb; have n0_ := Aside0.mk (blk_below (g := gb103) (o := .cells #[.int .i64 x104000_19, .int .i64 x104001_19, .string x104002_19] 32 (0, 0)) (by (with_reducible repeat (first | refine blk_drewN ?_ _ | refine blk_drew ?_ | refine blk_alloc ?_ _)); exact BK103.out) hb); have n1_ := Aside0.mk (blk_below (g := gb104) (o := .cells #[.int .i64 x105000_19, .int .i64 x105001_19, .string x105002_19] 32 (0, 0)) (by (with_reducible repeat (first | refine blk_drewN ?_ _ | refine blk_drew ?_ | refine blk_alloc ?_ _)); exact BK104.out) hb); have n2_ := Aside0.mk (blk_below (g := gb114) (o := .cells #[.int .i64 t110, .int .i64 t111, .string t112] 32 (0, 0)) (by (with_reducible repeat (first | refine blk_drewN ?_ _ | refine blk_drew ?_ | refine blk_alloc ?_ _)); exact BK114.out) hb); have n3_ := Aside0.mk (below_step (by repeat (first | (with_reducible first | exact HB.out | apply below_alloc | apply pw_below_drewN | apply below_drew1 | refine below_set ?_ GE103.out | refine below_set ?_ GE104.out | refine below_set ?_ GE114.out) | exact HB.out)) hb); have n4_ := Aside0.mk (hbox); have n5_ := Aside0.mk ((by rw [hg]; exact (below_size (by repeat (first | (with_reducible first | exact HB.out | apply below_alloc | apply pw_below_drewN | apply below_drew1 | refine below_set ?_ GE103.out | refine below_set ?_ GE104.out | refine below_set ?_ GE114.out) | exact HB.out))) : w.heap.size ≤ gb122)); have n6_ := Aside0.mk ((by rw [hg]; exact (below_size (by repeat (first | (with_reducible first | exact HB.out | apply below_alloc | apply pw_below_drewN | apply below_drew1 | refine below_set ?_ GE103.out | refine below_set ?_ GE104.out | refine below_set ?_ GE114.out) | exact HB.out))) : w.heap.size ≤ gb122)); have n7_ := Aside0.mk ((by rw [hg]; exact Nat.ne_of_lt (blk_lt (g := gb103) (o := .cells #[.int .i64 x104000_19, .int .i64 x104001_19, .string x104002_19] 32 (0, 0)) (by (with_reducible repeat (first | refine blk_drewN ?_ _ | refine blk_drew ?_ | refine blk_alloc ?_ _)); exact BK103.out)) : gb103 ≠ gb122)); have n8_ := Aside0.mk ((by rw [hg]; exact Nat.ne_of_gt (blk_lt (g := gb103) (o := .cells #[.int .i64 x104000_19, .int .i64 x104001_19, .string x104002_19] 32 (0, 0)) (by (with_reducible repeat (first | refine blk_drewN ?_ _ | refine blk_drew ?_ | refine blk_alloc ?_ _)); exact BK103.out)) : gb122 ≠ gb103)); have n9_ := Aside0.mk ((by rw [hg]; exact Nat.ne_of_lt (blk_lt (g := gb104) (o := .cells #[.int .i64 x105000_19, .int .i64 x105001_19, .string x105002_19] 32 (0, 0)) (by (with_reducible repeat (first | refine blk_drewN ?_ _ | refine blk_drew ?_ | refine blk_alloc ?_ _)); exact BK104.out)) : gb104 ≠ gb122)); have n10_ := Aside0.mk ((by rw [hg]; exact Nat.ne_of_gt (blk_lt (g := gb104) (o := .cells #[.int .i64 x105000_19, .int .i64 x105001_19, .string x105002_19] 32 (0, 0)) (by (with_reducible repeat (first | refine blk_drewN ?_ _ | refine blk_drew ?_ | refine blk_alloc ?_ _)); exact BK104.out)) : gb122 ≠ gb104)); have n11_ := Aside0.mk ((by rw [hg]; exact Nat.ne_of_lt (blk_lt (g := gb114) (o := .cells #[.int .i64 t110, .int .i64 t111, .string t112] 32 (0, 0)) (by (with_reducible repeat (first | refine blk_drewN ?_ _ | refine blk_drew ?_ | refine blk_alloc ?_ _)); exact BK114.out)) : gb114 ≠ gb122)); have n12_ := Aside0.mk ((by rw [hg]; exact Nat.ne_of_gt (blk_lt (g := gb114) (o := .cells #[.int .i64 t110, .int .i64 t111, .string t112] 32 (0, 0)) (by (with_reducible repeat (first | refine blk_drewN ?_ _ | refine blk_drew ?_ | refine blk_alloc ?_ _)); exact BK114.out)) : gb122 ≠ gb114)); clear BK103; clear BK104; clear BK114; clear HB; have BK103 := n0_; have BK104 := n1_; have BK114 := n2_; have HB := n3_; have BK122 := n4_; have GW122 := n5_; have GE122 := n6_; have NB103_122 := n7_; have NB122_103 := n8_; have NB104_122 := n9_; have NB122_104 := n10_; have NB114_122 := n11_; have NB122_114 := n12_; clear n0_ n1_ n2_ n3_ n4_ n5_ n6_ n7_ n8_ n9_ n10_ n11_ n12_; clear hb hbox hg; have hnb54 := NB122_103.out; have hnc54 := NB103_122.out; have hnb55 := NB122_104.out; have hnc55 := NB104_122.out; have hnb56 := NB122_114.out; have hnc56 := NB114_122.out; have hcz57_0 : w53.cell? ⟨gb122, 0, none⟩ = some (.int .i64 0) := (blk_cell BK122.out 0).trans rfl; have hcz57_1 : w53.cell? ⟨gb122, 1, none⟩ = some (.int .i64 0) := (blk_cell BK122.out 1).trans rfl; have hcz57_2 : w53.cell? ⟨gb122, 2, none⟩ = some (.string (⟨#[]⟩ : ByteArray)) := (blk_cell BK122.out 2).trans rfl; have hfz57_0 := blk_frozen BK122.out 0; have hfz57_1 := blk_frozen BK122.out 1; have hfz57_2 := blk_frozen BK122.out 2))
          (try simp only [Act.put, List.setIfInBounds_toArray, List.set_cons_zero, List.set_cons_succ])
          go_cut [] (fun wc => ∃ (kq : Nat) (x123000_45 : Int) (x123001_45 : Int) (x123002_45 : ByteArray), Aside0 (selkielaw11_OperSwaps.j1 kq (wrap64 (1 + (Int.tmod (wrap64 (a0)) 17))) t113 t115 t121 x104000_19 x104001_19 x104002_19 x105000_19 x105001_19 x105002_19 t110 t111 t112 x123000_45 x123001_45 x123002_45 = some r) ∧ Aside0 (kq ≤ kj19) ∧ Aside0 (wc.heap[gb103]? = some (.cells #[.int .i64 x104000_19, .int .i64 x104001_19, .string x104002_19] 32 (0, 0))) ∧ Aside0 (wc.heap[gb104]? = some (.cells #[.int .i64 x105000_19, .int .i64 x105001_19, .string x105002_19] 32 (0, 0))) ∧ Aside0 (wc.heap[gb114]? = some (.cells #[.int .i64 t110, .int .i64 t111, .string t112] 32 (0, 0))) ∧ Aside0 (wc.heap[gb122]? = some (.cells #[.int .i64 x123000_45, .int .i64 x123001_45, .string x123002_45] 32 (0, 0))) ∧ Aside0 (Below w.heap.size w wc))
          case first =>
            have H := HC46.out
            clear HC46
            by_cases c58 : t117 = true
            · subst c58
              have H1 : ((value_Truth.f t118 t119 t120).bind fun t123 => ((value_OfBool.f (!t123)).bind fun bt124 => (selkielaw11_OperSwaps.j1 kj19 (wrap64 (1 + (Int.tmod (wrap64 (a0)) 17))) t113 t115 t121 x104000_19 x104001_19 x104002_19 x105000_19 x105001_19 x105002_19 t110 t111 t112 bt124.1 bt124.2.1 bt124.2.2))) = some r := by rw [if_pos rfl] at H; exact H
              clear H
              have H := H1
              clear H1
              replace H := Option.bind_eq_some_iff.mp H
              obtain ⟨t123, A590, H⟩ := H
              replace H : ((value_OfBool.f (!t123)).bind fun bt124 => (selkielaw11_OperSwaps.j1 kj19 (wrap64 (1 + (Int.tmod (wrap64 (a0)) 17))) t113 t115 t121 x104000_19 x104001_19 x104002_19 x105000_19 x105001_19 x105002_19 t110 t111 t112 bt124.1 bt124.2.1 bt124.2.2)) = some r := H
              have A59 := Aside0.mk A590
              clear A590
              replace H := Option.bind_eq_some_iff.mp H
              obtain ⟨⟨t124, t125, t126⟩, A600, H⟩ := H
              replace H : (selkielaw11_OperSwaps.j1 kj19 (wrap64 (1 + (Int.tmod (wrap64 (a0)) 17))) t113 t115 t121 x104000_19 x104001_19 x104002_19 x105000_19 x105001_19 x105002_19 t110 t111 t112 t124 t125 t126) = some r := H
              have A60 := Aside0.mk A600
              clear A600
              have H' := Aside0.mk H
              clear H
              have hnb61 := NB122_103.out
              have hnc61 := NB103_122.out
              have hnb62 := NB122_104.out
              have hnc62 := NB104_122.out
              have hnb63 := NB122_114.out
              have hnc63 := NB114_122.out
              have hcz64_0 : w53.cell? ⟨gb122, 0, none⟩ = some (.int .i64 0) := (blk_cell BK122.out 0).trans rfl
              have hcz64_1 : w53.cell? ⟨gb122, 1, none⟩ = some (.int .i64 0) := (blk_cell BK122.out 1).trans rfl
              have hcz64_2 : w53.cell? ⟨gb122, 2, none⟩ = some (.string (⟨#[]⟩ : ByteArray)) := (blk_cell BK122.out 2).trans rfl
              have hfz64_0 := blk_frozen BK122.out 0
              have hfz64_1 := blk_frozen BK122.out 1
              have hfz64_2 := blk_frozen BK122.out 2
              go_wp2_with (first | ((with_reducible refine gate_callee (f := 47) rfl ?_); refine goesL_ (some 53) rfl rfl Tryd.func47 (by kernel_rfl) rfl #[.agg #[.int .i64 t118, .int .i64 t119, .string t120]] rfl (by (try simp only [List.map_toArray, List.map_cons, List.map_nil]); first | done | rfl | (simp only [List.length_drop, List.length_take]; rfl)) ?_; (with_reducible refine (value_Truth.calls t118 t119 t120 t123 _ A59.out).mono ?_); rintro e w65 ⟨rfl, hb⟩; refine ⟨_, rfl, ?_⟩; have n0_ := Aside0.mk (blk_below (g := gb103) (o := .cells #[.int .i64 x104000_19, .int .i64 x104001_19, .string x104002_19] 32 (0, 0)) (by (with_reducible repeat (first | refine blk_drewN ?_ _ | refine blk_drew ?_ | refine blk_alloc ?_ _)); refine blk_far ?_ NB103_122.out _; (with_reducible repeat (first | refine blk_drewN ?_ _ | refine blk_drew ?_ | refine blk_alloc ?_ _)); refine blk_far ?_ NB103_122.out _; (with_reducible repeat (first | refine blk_drewN ?_ _ | refine blk_drew ?_ | refine blk_alloc ?_ _)); refine blk_far ?_ NB103_122.out _; (with_reducible repeat (first | refine blk_drewN ?_ _ | refine blk_drew ?_ | refine blk_alloc ?_ _)); exact BK103.out) hb); have n1_ := Aside0.mk (blk_below (g := gb104) (o := .cells #[.int .i64 x105000_19, .int .i64 x105001_19, .string x105002_19] 32 (0, 0)) (by (with_reducible repeat (first | refine blk_drewN ?_ _ | refine blk_drew ?_ | refine blk_alloc ?_ _)); refine blk_far ?_ NB104_122.out _; (with_reducible repeat (first | refine blk_drewN ?_ _ | refine blk_drew ?_ | refine blk_alloc ?_ _)); refine blk_far ?_ NB104_122.out _; (with_reducible repeat (first | refine blk_drewN ?_ _ | refine blk_drew ?_ | refine blk_alloc ?_ _)); refine blk_far ?_ NB104_122.out _; (with_reducible repeat (first | refine blk_drewN ?_ _ | refine blk_drew ?_ | refine blk_alloc ?_ _)); exact BK104.out) hb); have n2_ := Aside0.mk (blk_below (g := gb114) (o := .cells #[.int .i64 t110, .int .i64 t111, .string t112] 32 (0, 0)) (by (with_reducible repeat (first | refine blk_drewN ?_ _ | refine blk_drew ?_ | refine blk_alloc ?_ _)); refine blk_far ?_ NB114_122.out _; (with_reducible repeat (first | refine blk_drewN ?_ _ | refine blk_drew ?_ | refine blk_alloc ?_ _)); refine blk_far ?_ NB114_122.out _; (with_reducible repeat (first | refine blk_drewN ?_ _ | refine blk_drew ?_ | refine blk_alloc ?_ _)); refine blk_far ?_ NB114_122.out _; (with_reducible repeat (first | refine blk_drewN ?_ _ | refine blk_drew ?_ | refine blk_alloc ?_ _)); exact BK114.out) hb); have n3_ := Aside0.mk (blk_below (g := gb122) (o := .cells #[.int .i64 t118, .int .i64 t119, .string t120] 32 (0, 0)) (by (with_reducible repeat (first | refine blk_drewN ?_ _ | refine blk_drew ?_ | refine blk_alloc ?_ _)); refine blk_put (cs := #[.int .i64 t118, .int .i64 t119, .string (⟨#[]⟩ : ByteArray)]) ?_ 2 _ rfl; (with_reducible repeat (first | refine blk_drewN ?_ _ | refine blk_drew ?_ | refine blk_alloc ?_ _)); refine blk_put (cs := #[.int .i64 t118, .int .i64 0, .string (⟨#[]⟩ : ByteArray)]) ?_ 1 _ rfl; (with_reducible repeat (first | refine blk_drewN ?_ _ | refine blk_drew ?_ | refine blk_alloc ?_ _)); refine blk_put (cs := #[.int .i64 0, .int .i64 0, .string (⟨#[]⟩ : ByteArray)]) ?_ 0 _ rfl; (with_reducible repeat (first | refine blk_drewN ?_ _ | refine blk_drew ?_ | refine blk_alloc ?_ _)); exact BK122.out) hb); have n4_ := Aside0.mk (below_step (by repeat (first | (with_reducible first | exact HB.out | apply below_alloc | apply pw_below_drewN | apply below_drew1 | refine below_set ?_ GE103.out | refine below_set ?_ GE104.out | refine below_set ?_ GE114.out | refine below_set ?_ GE122.out) | exact HB.out)) hb); clear BK103; clear BK104; clear BK114; clear BK122; clear HB; have BK103 := n0_; have BK104 := n1_; have BK114 := n2_; have BK122 := n3_; have HB := n4_; clear n0_ n1_ n2_ n3_ n4_; (try clear hb); (try clear hb2); (try clear hk); (try clear hi)) | ((with_reducible refine gate_callee (f := 49) rfl ?_); refine goesL_ (some 55) rfl rfl Tryd.func49 (by kernel_rfl) rfl #[.bool (!t123)] rfl (by (try simp only [List.map_toArray, List.map_cons, List.map_nil]); first | done | rfl | (simp only [List.length_drop, List.length_take]; rfl)) ?_; (with_reducible refine (value_OfBool.calls (!t123) t124 t125 t126 _ A60.out).mono ?_); rintro e w66 ⟨rfl, hb⟩; refine ⟨_, rfl, ?_⟩; have n0_ := Aside0.mk (blk_below (g := gb103) (o := .cells #[.int .i64 x104000_19, .int .i64 x104001_19, .string x104002_19] 32 (0, 0)) (by (with_reducible repeat (first | refine blk_drewN ?_ _ | refine blk_drew ?_ | refine blk_alloc ?_ _)); exact BK103.out) hb); have n1_ := Aside0.mk (blk_below (g := gb104) (o := .cells #[.int .i64 x105000_19, .int .i64 x105001_19, .string x105002_19] 32 (0, 0)) (by (with_reducible repeat (first | refine blk_drewN ?_ _ | refine blk_drew ?_ | refine blk_alloc ?_ _)); exact BK104.out) hb); have n2_ := Aside0.mk (blk_below (g := gb114) (o := .cells #[.int .i64 t110, .int .i64 t111, .string t112] 32 (0, 0)) (by (with_reducible repeat (first | refine blk_drewN ?_ _ | refine blk_drew ?_ | refine blk_alloc ?_ _)); exact BK114.out) hb); have n3_ := Aside0.mk (blk_below (g := gb122) (o := .cells #[.int .i64 t118, .int .i64 t119, .string t120] 32 (0, 0)) (by (with_reducible repeat (first | refine blk_drewN ?_ _ | refine blk_drew ?_ | refine blk_alloc ?_ _)); exact BK122.out) hb); have n4_ := Aside0.mk (below_step (by repeat (first | (with_reducible first | exact HB.out | apply below_alloc | apply pw_below_drewN | apply below_drew1 | refine below_set ?_ GE103.out | refine below_set ?_ GE104.out | refine below_set ?_ GE114.out | refine below_set ?_ GE122.out) | exact HB.out)) hb); clear BK103; clear BK104; clear BK114; clear BK122; clear HB; have BK103 := n0_; have BK104 := n1_; have BK114 := n2_; have BK122 := n3_; have HB := n4_; clear n0_ n1_ n2_ n3_ n4_; (try clear hb); (try clear hb2); (try clear hk); (try clear hi); have hcz67_0 : w66.cell? ⟨gb122, 0, none⟩ = some (.int .i64 t118) := (blk_cell BK122.out 0).trans rfl; have hcz67_1 : w66.cell? ⟨gb122, 1, none⟩ = some (.int .i64 t119) := (blk_cell BK122.out 1).trans rfl; have hcz67_2 : w66.cell? ⟨gb122, 2, none⟩ = some (.string t120) := (blk_cell BK122.out 2).trans rfl; have hfz67_0 := blk_frozen BK122.out 0; have hfz67_1 := blk_frozen BK122.out 1; have hfz67_2 := blk_frozen BK122.out 2))
              go_meet
              case rel => exact ⟨_, (t124), (t125), (t126), H', ⟨by have := HJ19.out; first | omega | exact Nat.le_refl _⟩, ⟨by (with_reducible repeat (first | refine blk_drewN ?_ _ | refine blk_drew ?_ | refine blk_alloc ?_ _)); refine blk_far ?_ NB103_122.out _; (with_reducible repeat (first | refine blk_drewN ?_ _ | refine blk_drew ?_ | refine blk_alloc ?_ _)); refine blk_far ?_ NB103_122.out _; (with_reducible repeat (first | refine blk_drewN ?_ _ | refine blk_drew ?_ | refine blk_alloc ?_ _)); refine blk_far ?_ NB103_122.out _; (with_reducible repeat (first | refine blk_drewN ?_ _ | refine blk_drew ?_ | refine blk_alloc ?_ _)); exact BK103.out⟩, ⟨by (with_reducible repeat (first | refine blk_drewN ?_ _ | refine blk_drew ?_ | refine blk_alloc ?_ _)); refine blk_far ?_ NB104_122.out _; (with_reducible repeat (first | refine blk_drewN ?_ _ | refine blk_drew ?_ | refine blk_alloc ?_ _)); refine blk_far ?_ NB104_122.out _; (with_reducible repeat (first | refine blk_drewN ?_ _ | refine blk_drew ?_ | refine blk_alloc ?_ _)); refine blk_far ?_ NB104_122.out _; (with_reducible repeat (first | refine blk_drewN ?_ _ | refine blk_drew ?_ | refine blk_alloc ?_ _)); exact BK104.out⟩, ⟨by (with_reducible repeat (first | refine blk_drewN ?_ _ | refine blk_drew ?_ | refine blk_alloc ?_ _)); refine blk_far ?_ NB114_122.out _; (with_reducible repeat (first | refine blk_drewN ?_ _ | refine blk_drew ?_ | refine blk_alloc ?_ _)); refine blk_far ?_ NB114_122.out _; (with_reducible repeat (first | refine blk_drewN ?_ _ | refine blk_drew ?_ | refine blk_alloc ?_ _)); refine blk_far ?_ NB114_122.out _; (with_reducible repeat (first | refine blk_drewN ?_ _ | refine blk_drew ?_ | refine blk_alloc ?_ _)); exact BK114.out⟩, ⟨by (with_reducible repeat (first | refine blk_drewN ?_ _ | refine blk_drew ?_ | refine blk_alloc ?_ _)); refine blk_put (cs := #[.int .i64 t124, .int .i64 t125, .string t120]) ?_ 2 _ rfl; (with_reducible repeat (first | refine blk_drewN ?_ _ | refine blk_drew ?_ | refine blk_alloc ?_ _)); refine blk_put (cs := #[.int .i64 t124, .int .i64 t119, .string t120]) ?_ 1 _ rfl; (with_reducible repeat (first | refine blk_drewN ?_ _ | refine blk_drew ?_ | refine blk_alloc ?_ _)); refine blk_put (cs := #[.int .i64 t118, .int .i64 t119, .string t120]) ?_ 0 _ rfl; (with_reducible repeat (first | refine blk_drewN ?_ _ | refine blk_drew ?_ | refine blk_alloc ?_ _)); exact BK122.out⟩, ⟨by repeat (first | (with_reducible first | exact HB.out | apply below_alloc | apply pw_below_drewN | apply below_drew1 | refine below_set ?_ GE103.out | refine below_set ?_ GE104.out | refine below_set ?_ GE114.out | refine below_set ?_ GE122.out) | exact HB.out)⟩⟩
            · replace c58 := Bool.eq_false_iff.mpr c58
              subst c58
              have H1 : (selkielaw11_OperSwaps.j1 kj19 (wrap64 (1 + (Int.tmod (wrap64 (a0)) 17))) t113 t115 t121 x104000_19 x104001_19 x104002_19 x105000_19 x105001_19 x105002_19 t110 t111 t112 t118 t119 t120) = some r := by rw [if_neg (show ¬ (false = true) by decide)] at H; exact H
              clear H
              have H := H1
              clear H1
              have H' := Aside0.mk H
              clear H
              go_wp2
              go_meet
              case rel => exact ⟨_, (t118), (t119), (t120), H', ⟨by have := HJ19.out; first | omega | exact Nat.le_refl _⟩, ⟨by (with_reducible repeat (first | refine blk_drewN ?_ _ | refine blk_drew ?_ | refine blk_alloc ?_ _)); refine blk_far ?_ NB103_122.out _; (with_reducible repeat (first | refine blk_drewN ?_ _ | refine blk_drew ?_ | refine blk_alloc ?_ _)); refine blk_far ?_ NB103_122.out _; (with_reducible repeat (first | refine blk_drewN ?_ _ | refine blk_drew ?_ | refine blk_alloc ?_ _)); refine blk_far ?_ NB103_122.out _; (with_reducible repeat (first | refine blk_drewN ?_ _ | refine blk_drew ?_ | refine blk_alloc ?_ _)); exact BK103.out⟩, ⟨by (with_reducible repeat (first | refine blk_drewN ?_ _ | refine blk_drew ?_ | refine blk_alloc ?_ _)); refine blk_far ?_ NB104_122.out _; (with_reducible repeat (first | refine blk_drewN ?_ _ | refine blk_drew ?_ | refine blk_alloc ?_ _)); refine blk_far ?_ NB104_122.out _; (with_reducible repeat (first | refine blk_drewN ?_ _ | refine blk_drew ?_ | refine blk_alloc ?_ _)); refine blk_far ?_ NB104_122.out _; (with_reducible repeat (first | refine blk_drewN ?_ _ | refine blk_drew ?_ | refine blk_alloc ?_ _)); exact BK104.out⟩, ⟨by (with_reducible repeat (first | refine blk_drewN ?_ _ | refine blk_drew ?_ | refine blk_alloc ?_ _)); refine blk_far ?_ NB114_122.out _; (with_reducible repeat (first | refine blk_drewN ?_ _ | refine blk_drew ?_ | refine blk_alloc ?_ _)); refine blk_far ?_ NB114_122.out _; (with_reducible repeat (first | refine blk_drewN ?_ _ | refine blk_drew ?_ | refine blk_alloc ?_ _)); refine blk_far ?_ NB114_122.out _; (with_reducible repeat (first | refine blk_drewN ?_ _ | refine blk_drew ?_ | refine blk_alloc ?_ _)); exact BK114.out⟩, ⟨by (with_reducible repeat (first | refine blk_drewN ?_ _ | refine blk_drew ?_ | refine blk_alloc ?_ _)); refine blk_put (cs := #[.int .i64 t118, .int .i64 t119, .string (⟨#[]⟩ : ByteArray)]) ?_ 2 _ rfl; (with_reducible repeat (first | refine blk_drewN ?_ _ | refine blk_drew ?_ | refine blk_alloc ?_ _)); refine blk_put (cs := #[.int .i64 t118, .int .i64 0, .string (⟨#[]⟩ : ByteArray)]) ?_ 1 _ rfl; (with_reducible repeat (first | refine blk_drewN ?_ _ | refine blk_drew ?_ | refine blk_alloc ?_ _)); refine blk_put (cs := #[.int .i64 0, .int .i64 0, .string (⟨#[]⟩ : ByteArray)]) ?_ 0 _ rfl; (with_reducible repeat (first | refine blk_drewN ?_ _ | refine blk_drew ?_ | refine blk_alloc ?_ _)); exact BK122.out⟩, ⟨by repeat (first | (with_reducible first | exact HB.out | apply below_alloc | apply pw_below_drewN | apply below_drew1 | refine below_set ?_ GE103.out | refine below_set ?_ GE104.out | refine below_set ?_ GE114.out | refine below_set ?_ GE122.out) | exact HB.out)⟩⟩
          case rest =>
            clear HC46
            try clear c1
            try clear c2
            try clear p2
            try clear c3
            try clear c4
            try clear c5
            try clear c6
            try clear p6
            try clear c7
            try clear c9
            try clear c11
            try clear c24
            try clear c35
            try clear c36
            try clear c39
            try clear c40
            try clear c41
            try clear c43
            try clear c44
            try clear c46
            try clear c47
            try clear c48
            try clear c49
            try clear c50
            try clear c54
            try clear c55
            try clear c56
            try clear c58
            try clear c61
            try clear c62
            try clear c63
            try clear p64
            try clear hcz12_0
            try clear hcz12_1
            try clear hcz12_2
            try clear hcz13_0
            try clear hcz13_1
            try clear hcz13_2
            try clear hcz25_0
            try clear hcz25_1
            try clear hcz25_2
            try clear hcz26_0
            try clear hcz26_1
            try clear hcz26_2
            try clear hcz31_0
            try clear hcz31_1
            try clear hcz31_2
            try clear hcz32_0
            try clear hcz32_1
            try clear hcz32_2
            try clear hcz37_0
            try clear hcz37_1
            try clear hcz37_2
            try clear hcz42_0
            try clear hcz42_1
            try clear hcz42_2
            try clear hcz44_0
            try clear hcz44_1
            try clear hcz44_2
            try clear hcz49_0
            try clear hcz49_1
            try clear hcz49_2
            try clear hcz51_0
            try clear hcz51_1
            try clear hcz51_2
            try clear hcz57_0
            try clear hcz57_1
            try clear hcz57_2
            try clear hcz64_0
            try clear hcz64_1
            try clear hcz64_2
            try clear hcz67_0
            try clear hcz67_1
            try clear hcz67_2
            try clear hfz12_0
            try clear hfz12_1
            try clear hfz12_2
            try clear hfz13_0
            try clear hfz13_1
            try clear hfz13_2
            try clear hfz25_0
            try clear hfz25_1
            try clear hfz25_2
            try clear hfz26_0
            try clear hfz26_1
            try clear hfz26_2
            try clear hfz31_0
            try clear hfz31_1
            try clear hfz31_2
            try clear hfz32_0
            try clear hfz32_1
            try clear hfz32_2
            try clear hfz37_0
            try clear hfz37_1
            try clear hfz37_2
            try clear hfz42_0
            try clear hfz42_1
            try clear hfz42_2
            try clear hfz44_0
            try clear hfz44_1
            try clear hfz44_2
            try clear hfz49_0
            try clear hfz49_1
            try clear hfz49_2
            try clear hfz51_0
            try clear hfz51_1
            try clear hfz51_2
            try clear hfz57_0
            try clear hfz57_1
            try clear hfz57_2
            try clear hfz64_0
            try clear hfz64_1
            try clear hfz64_2
            try clear hfz67_0
            try clear hfz67_1
            try clear hfz67_2
            try clear p2
            try clear p6
            obtain ⟨kq, x123000_45, x123001_45, x123002_45, HA, HJ45, BK103, BK104, BK114, BK122, HB⟩ := hcut
            cases kq with
            | zero => exact absurd HA.out (by simp [selkielaw11_OperSwaps.j1])
            | succ kj45 =>
              have H := HA.out
              clear HA
              simp only [selkielaw11_OperSwaps.j1] at H
              have HC68 := Aside0.mk H
              clear H
              go_upto_region 13 with (fail)
              go_cut [79] (fun v79 wc => ∃ (kq : Nat) (x79_67 : Bool), v79 = .bool x79_67 ∧ Aside0 (selkielaw11_OperSwaps.j2 kq t113 t115 x79_67 x104000_19 x104001_19 x104002_19 x105000_19 x105001_19 x105002_19 = some r) ∧ Aside0 (kq ≤ kj45) ∧ Aside0 (wc.heap[gb103]? = some (.cells #[.int .i64 x104000_19, .int .i64 x104001_19, .string x104002_19] 32 (0, 0))) ∧ Aside0 (wc.heap[gb104]? = some (.cells #[.int .i64 x105000_19, .int .i64 x105001_19, .string x105002_19] 32 (0, 0))) ∧ Aside0 (wc.heap[gb114]? = some (.cells #[.int .i64 t110, .int .i64 t111, .string t112] 32 (0, 0))) ∧ Aside0 (wc.heap[gb122]? = some (.cells #[.int .i64 x123000_45, .int .i64 x123001_45, .string x123002_45] 32 (0, 0))) ∧ Aside0 (Below w.heap.size w wc))
              case first =>
                have H := HC68.out
                clear HC68
                by_cases c69 : t113 = t121
                · rw [if_pos c69] at H
                  have c69b0 : (t113 == t121) = true := beq_iff_eq.mpr c69
                  have c69b1 : (t113 != t121) = false := bne_eq_false_iff_eq.mpr c69
                  clear c69
                  (first | rw [c69b0] | (simp only [i64_w, i32_w]; rw [c69b0]) | skip)
                  by_cases c70 : t113 = 0
                  · rw [if_pos c70] at H
                    have c70b0 : (t113 == 0) = true := beq_iff_eq.mpr c70
                    have c70b1 : (t113 != 0) = false := bne_eq_false_iff_eq.mpr c70
                    clear c70
                    by_cases c71 : (!(t110 == x123000_45) || (!(t111 == x123001_45) || (!(t112.toList == x123002_45.toList)))) = true
                    · rw [if_pos c71] at H
                      have c71b0 : (!(t110 == x123000_45) || (!(t111 == x123001_45) || (!(t112.toList == x123002_45.toList)))) = true := c71
                      clear c71
                      have H' := Aside0.mk H
                      clear H
                      have hnb72 := NB114_103.out
                      have hnc72 := NB103_114.out
                      have hnb73 := NB114_104.out
                      have hnc73 := NB104_114.out
                      have hnb74 := NB114_122.out
                      have hnc74 := NB122_114.out
                      have hcz75_0 : wc.cell? ⟨gb114, 0, none⟩ = some (.int .i64 t110) := (blk_cell BK114.out 0).trans rfl
                      have hcz75_1 : wc.cell? ⟨gb114, 1, none⟩ = some (.int .i64 t111) := (blk_cell BK114.out 1).trans rfl
                      have hcz75_2 : wc.cell? ⟨gb114, 2, none⟩ = some (.string t112) := (blk_cell BK114.out 2).trans rfl
                      have hfz75_0 := blk_frozen BK114.out 0
                      have hfz75_1 := blk_frozen BK114.out 1
                      have hfz75_2 := blk_frozen BK114.out 2
                      have hnb76 := NB122_103.out
                      have hnc76 := NB103_122.out
                      have hnb77 := NB122_104.out
                      have hnc77 := NB104_122.out
                      have hcz78_0 : wc.cell? ⟨gb122, 0, none⟩ = some (.int .i64 x123000_45) := (blk_cell BK122.out 0).trans rfl
                      have hcz78_1 : wc.cell? ⟨gb122, 1, none⟩ = some (.int .i64 x123001_45) := (blk_cell BK122.out 1).trans rfl
                      have hcz78_2 : wc.cell? ⟨gb122, 2, none⟩ = some (.string x123002_45) := (blk_cell BK122.out 2).trans rfl
                      have hfz78_0 := blk_frozen BK122.out 0
                      have hfz78_1 := blk_frozen BK122.out 1
                      have hfz78_2 := blk_frozen BK122.out 2
                      go_wp2
                      go_meet
                      case rel => exact ⟨_, (true), (by first | rfl | (simp; done) | (simp [*]; done) | (simp; exact TabW.bclose _ _) | (simp; exact TabW.bclose2 _)), H', ⟨by have := HJ19.out; have := HJ45.out; first | omega | exact Nat.le_refl _⟩, ⟨by (with_reducible repeat (first | refine blk_drewN ?_ _ | refine blk_drew ?_ | refine blk_alloc ?_ _)); exact BK103.out⟩, ⟨by (with_reducible repeat (first | refine blk_drewN ?_ _ | refine blk_drew ?_ | refine blk_alloc ?_ _)); exact BK104.out⟩, ⟨by (with_reducible repeat (first | refine blk_drewN ?_ _ | refine blk_drew ?_ | refine blk_alloc ?_ _)); exact BK114.out⟩, ⟨by (with_reducible repeat (first | refine blk_drewN ?_ _ | refine blk_drew ?_ | refine blk_alloc ?_ _)); exact BK122.out⟩, ⟨by repeat (first | (with_reducible first | exact HB.out | apply below_alloc | apply pw_below_drewN | apply below_drew1 | refine below_set ?_ GE103.out | refine below_set ?_ GE104.out | refine below_set ?_ GE114.out | refine below_set ?_ GE122.out) | exact HB.out)⟩⟩
                    · rw [if_neg c71] at H
                      have c71b0 : (!(t110 == x123000_45) || (!(t111 == x123001_45) || (!(t112.toList == x123002_45.toList)))) = false := by simpa using c71
                      clear c71
                      replace H := Option.bind_eq_some_iff.mp H
                      obtain ⟨t127, A790, H⟩ := H
                      replace H : ((oper_Event.f t115).bind fun t128 => (if t127.toList = t128.toList then ((oper_Event.f (wrap64 (1 + (Int.tmod (wrap64 (a0)) 17)))).bind fun t129 => (selkielaw11_OperSwaps.j2 kj45 t113 t115 (t129.toList == ([] : List UInt8)) x104000_19 x104001_19 x104002_19 x105000_19 x105001_19 x105002_19)) else (selkielaw11_OperSwaps.j2 kj45 t113 t115 true x104000_19 x104001_19 x104002_19 x105000_19 x105001_19 x105002_19))) = some r := H
                      have A79 := Aside0.mk A790
                      clear A790
                      replace H := Option.bind_eq_some_iff.mp H
                      obtain ⟨t128, A800, H⟩ := H
                      replace H : (if t127.toList = t128.toList then ((oper_Event.f (wrap64 (1 + (Int.tmod (wrap64 (a0)) 17)))).bind fun t129 => (selkielaw11_OperSwaps.j2 kj45 t113 t115 (t129.toList == ([] : List UInt8)) x104000_19 x104001_19 x104002_19 x105000_19 x105001_19 x105002_19)) else (selkielaw11_OperSwaps.j2 kj45 t113 t115 true x104000_19 x104001_19 x104002_19 x105000_19 x105001_19 x105002_19)) = some r := H
                      have A80 := Aside0.mk A800
                      clear A800
                      by_cases c81 : t127.toList = t128.toList
                      · rw [if_pos c81] at H
                        have c81b0 : (t127.toList == t128.toList) = true := beq_iff_eq.mpr c81
                        have c81b1 : (t127.toList != t128.toList) = false := bne_eq_false_iff_eq.mpr c81
                        clear c81
                        replace H := Option.bind_eq_some_iff.mp H
                        obtain ⟨t129, A820, H⟩ := H
                        replace H : (selkielaw11_OperSwaps.j2 kj45 t113 t115 (t129.toList == ([] : List UInt8)) x104000_19 x104001_19 x104002_19 x105000_19 x105001_19 x105002_19) = some r := H
                        have A82 := Aside0.mk A820
                        clear A820
                        have H' := Aside0.mk H
                        clear H
                        have hnb83 := NB114_103.out
                        have hnc83 := NB103_114.out
                        have hnb84 := NB114_104.out
                        have hnc84 := NB104_114.out
                        have hnb85 := NB114_122.out
                        have hnc85 := NB122_114.out
                        have hcz86_0 : wc.cell? ⟨gb114, 0, none⟩ = some (.int .i64 t110) := (blk_cell BK114.out 0).trans rfl
                        have hcz86_1 : wc.cell? ⟨gb114, 1, none⟩ = some (.int .i64 t111) := (blk_cell BK114.out 1).trans rfl
                        have hcz86_2 : wc.cell? ⟨gb114, 2, none⟩ = some (.string t112) := (blk_cell BK114.out 2).trans rfl
                        have hfz86_0 := blk_frozen BK114.out 0
                        have hfz86_1 := blk_frozen BK114.out 1
                        have hfz86_2 := blk_frozen BK114.out 2
                        have hnb87 := NB122_103.out
                        have hnc87 := NB103_122.out
                        have hnb88 := NB122_104.out
                        have hnc88 := NB104_122.out
                        have hcz89_0 : wc.cell? ⟨gb122, 0, none⟩ = some (.int .i64 x123000_45) := (blk_cell BK122.out 0).trans rfl
                        have hcz89_1 : wc.cell? ⟨gb122, 1, none⟩ = some (.int .i64 x123001_45) := (blk_cell BK122.out 1).trans rfl
                        have hcz89_2 : wc.cell? ⟨gb122, 2, none⟩ = some (.string x123002_45) := (blk_cell BK122.out 2).trans rfl
                        have hfz89_0 := blk_frozen BK122.out 0
                        have hfz89_1 := blk_frozen BK122.out 1
                        have hfz89_2 := blk_frozen BK122.out 2
                        go_wp2_with (first | (go_at_call 50; (with_reducible refine (oper_Event.calls (wrap64 (1 + (Int.tmod (wrap64 (a0)) 17))) t127 _ A79.out).mono ?_); rintro e w90 ⟨rfl, hb⟩; have n0_ := Aside0.mk (blk_below (g := gb103) (o := .cells #[.int .i64 x104000_19, .int .i64 x104001_19, .string x104002_19] 32 (0, 0)) (by (with_reducible repeat (first | refine blk_drewN ?_ _ | refine blk_drew ?_ | refine blk_alloc ?_ _)); exact BK103.out) hb); have n1_ := Aside0.mk (blk_below (g := gb104) (o := .cells #[.int .i64 x105000_19, .int .i64 x105001_19, .string x105002_19] 32 (0, 0)) (by (with_reducible repeat (first | refine blk_drewN ?_ _ | refine blk_drew ?_ | refine blk_alloc ?_ _)); exact BK104.out) hb); have n2_ := Aside0.mk (blk_below (g := gb114) (o := .cells #[.int .i64 t110, .int .i64 t111, .string t112] 32 (0, 0)) (by (with_reducible repeat (first | refine blk_drewN ?_ _ | refine blk_drew ?_ | refine blk_alloc ?_ _)); exact BK114.out) hb); have n3_ := Aside0.mk (blk_below (g := gb122) (o := .cells #[.int .i64 x123000_45, .int .i64 x123001_45, .string x123002_45] 32 (0, 0)) (by (with_reducible repeat (first | refine blk_drewN ?_ _ | refine blk_drew ?_ | refine blk_alloc ?_ _)); exact BK122.out) hb); have n4_ := Aside0.mk (below_step (by repeat (first | (with_reducible first | exact HB.out | apply below_alloc | apply pw_below_drewN | apply below_drew1 | refine below_set ?_ GE103.out | refine below_set ?_ GE104.out | refine below_set ?_ GE114.out | refine below_set ?_ GE122.out) | exact HB.out)) hb); clear BK103; clear BK104; clear BK114; clear BK122; clear HB; have BK103 := n0_; have BK104 := n1_; have BK114 := n2_; have BK122 := n3_; have HB := n4_; clear n0_ n1_ n2_ n3_ n4_; (try clear hb); (try clear hb2); (try clear hk); (try clear hi)) | (go_at_call 50; (with_reducible refine (oper_Event.calls t115 t128 _ A80.out).mono ?_); rintro e w91 ⟨rfl, hb⟩; have n0_ := Aside0.mk (blk_below (g := gb103) (o := .cells #[.int .i64 x104000_19, .int .i64 x104001_19, .string x104002_19] 32 (0, 0)) (by (with_reducible repeat (first | refine blk_drewN ?_ _ | refine blk_drew ?_ | refine blk_alloc ?_ _)); exact BK103.out) hb); have n1_ := Aside0.mk (blk_below (g := gb104) (o := .cells #[.int .i64 x105000_19, .int .i64 x105001_19, .string x105002_19] 32 (0, 0)) (by (with_reducible repeat (first | refine blk_drewN ?_ _ | refine blk_drew ?_ | refine blk_alloc ?_ _)); exact BK104.out) hb); have n2_ := Aside0.mk (blk_below (g := gb114) (o := .cells #[.int .i64 t110, .int .i64 t111, .string t112] 32 (0, 0)) (by (with_reducible repeat (first | refine blk_drewN ?_ _ | refine blk_drew ?_ | refine blk_alloc ?_ _)); exact BK114.out) hb); have n3_ := Aside0.mk (blk_below (g := gb122) (o := .cells #[.int .i64 x123000_45, .int .i64 x123001_45, .string x123002_45] 32 (0, 0)) (by (with_reducible repeat (first | refine blk_drewN ?_ _ | refine blk_drew ?_ | refine blk_alloc ?_ _)); exact BK122.out) hb); have n4_ := Aside0.mk (below_step (by repeat (first | (with_reducible first | exact HB.out | apply below_alloc | apply pw_below_drewN | apply below_drew1 | refine below_set ?_ GE103.out | refine below_set ?_ GE104.out | refine below_set ?_ GE114.out | refine below_set ?_ GE122.out) | exact HB.out)) hb); clear BK103; clear BK104; clear BK114; clear BK122; clear HB; have BK103 := n0_; have BK104 := n1_; have BK114 := n2_; have BK122 := n3_; have HB := n4_; clear n0_ n1_ n2_ n3_ n4_; (try clear hb); (try clear hb2); (try clear hk); (try clear hi)) | (go_at_call 50; (with_reducible refine (oper_Event.calls (wrap64 (1 + (Int.tmod (wrap64 (a0)) 17))) t129 _ A82.out).mono ?_); rintro e w92 ⟨rfl, hb⟩; have n0_ := Aside0.mk (blk_below (g := gb103) (o := .cells #[.int .i64 x104000_19, .int .i64 x104001_19, .string x104002_19] 32 (0, 0)) (by (with_reducible repeat (first | refine blk_drewN ?_ _ | refine blk_drew ?_ | refine blk_alloc ?_ _)); exact BK103.out) hb); have n1_ := Aside0.mk (blk_below (g := gb104) (o := .cells #[.int .i64 x105000_19, .int .i64 x105001_19, .string x105002_19] 32 (0, 0)) (by (with_reducible repeat (first | refine blk_drewN ?_ _ | refine blk_drew ?_ | refine blk_alloc ?_ _)); exact BK104.out) hb); have n2_ := Aside0.mk (blk_below (g := gb114) (o := .cells #[.int .i64 t110, .int .i64 t111, .string t112] 32 (0, 0)) (by (with_reducible repeat (first | refine blk_drewN ?_ _ | refine blk_drew ?_ | refine blk_alloc ?_ _)); exact BK114.out) hb); have n3_ := Aside0.mk (blk_below (g := gb122) (o := .cells #[.int .i64 x123000_45, .int .i64 x123001_45, .string x123002_45] 32 (0, 0)) (by (with_reducible repeat (first | refine blk_drewN ?_ _ | refine blk_drew ?_ | refine blk_alloc ?_ _)); exact BK122.out) hb); have n4_ := Aside0.mk (below_step (by repeat (first | (with_reducible first | exact HB.out | apply below_alloc | apply pw_below_drewN | apply below_drew1 | refine below_set ?_ GE103.out | refine below_set ?_ GE104.out | refine below_set ?_ GE114.out | refine below_set ?_ GE122.out) | exact HB.out)) hb); clear BK103; clear BK104; clear BK114; clear BK122; clear HB; have BK103 := n0_; have BK104 := n1_; have BK114 := n2_; have BK122 := n3_; have HB := n4_; clear n0_ n1_ n2_ n3_ n4_; (try clear hb); (try clear hb2); (try clear hk); (try clear hi)))
                        go_meet
                        case rel => exact ⟨_, ((t129.toList == ([] : List UInt8))), (by rw [Option.some.inj (A79.out.symm.trans A82.out)]; first | rfl | (simp; done) | (simp [*]; done) | (simp; exact TabW.bclose _ _) | (simp; exact TabW.bclose2 _)), H', ⟨by have := HJ19.out; have := HJ45.out; first | omega | exact Nat.le_refl _⟩, ⟨by (with_reducible repeat (first | refine blk_drewN ?_ _ | refine blk_drew ?_ | refine blk_alloc ?_ _)); exact BK103.out⟩, ⟨by (with_reducible repeat (first | refine blk_drewN ?_ _ | refine blk_drew ?_ | refine blk_alloc ?_ _)); exact BK104.out⟩, ⟨by (with_reducible repeat (first | refine blk_drewN ?_ _ | refine blk_drew ?_ | refine blk_alloc ?_ _)); exact BK114.out⟩, ⟨by (with_reducible repeat (first | refine blk_drewN ?_ _ | refine blk_drew ?_ | refine blk_alloc ?_ _)); exact BK122.out⟩, ⟨by repeat (first | (with_reducible first | exact HB.out | apply below_alloc | apply pw_below_drewN | apply below_drew1 | refine below_set ?_ GE103.out | refine below_set ?_ GE104.out | refine below_set ?_ GE114.out | refine below_set ?_ GE122.out) | exact HB.out)⟩⟩
                      · rw [if_neg c81] at H
                        have c81b0 : (t127.toList == t128.toList) = false := beq_eq_false_iff_ne.mpr c81
                        have c81b1 : (t127.toList != t128.toList) = true := bne_iff_ne.mpr c81
                        have H' := Aside0.mk H
                        clear H
                        have hnb93 := NB114_103.out
                        have hnc93 := NB103_114.out
                        have hnb94 := NB114_104.out
                        have hnc94 := NB104_114.out
                        have hnb95 := NB114_122.out
                        have hnc95 := NB122_114.out
                        have hcz96_0 : wc.cell? ⟨gb114, 0, none⟩ = some (.int .i64 t110) := (blk_cell BK114.out 0).trans rfl
                        have hcz96_1 : wc.cell? ⟨gb114, 1, none⟩ = some (.int .i64 t111) := (blk_cell BK114.out 1).trans rfl
                        have hcz96_2 : wc.cell? ⟨gb114, 2, none⟩ = some (.string t112) := (blk_cell BK114.out 2).trans rfl
                        have hfz96_0 := blk_frozen BK114.out 0
                        have hfz96_1 := blk_frozen BK114.out 1
                        have hfz96_2 := blk_frozen BK114.out 2
                        have hnb97 := NB122_103.out
                        have hnc97 := NB103_122.out
                        have hnb98 := NB122_104.out
                        have hnc98 := NB104_122.out
                        have hcz99_0 : wc.cell? ⟨gb122, 0, none⟩ = some (.int .i64 x123000_45) := (blk_cell BK122.out 0).trans rfl
                        have hcz99_1 : wc.cell? ⟨gb122, 1, none⟩ = some (.int .i64 x123001_45) := (blk_cell BK122.out 1).trans rfl
                        have hcz99_2 : wc.cell? ⟨gb122, 2, none⟩ = some (.string x123002_45) := (blk_cell BK122.out 2).trans rfl
                        have hfz99_0 := blk_frozen BK122.out 0
                        have hfz99_1 := blk_frozen BK122.out 1
                        have hfz99_2 := blk_frozen BK122.out 2
                        go_wp2_with (first | (go_at_call 50; (with_reducible refine (oper_Event.calls (wrap64 (1 + (Int.tmod (wrap64 (a0)) 17))) t127 _ A79.out).mono ?_); rintro e w100 ⟨rfl, hb⟩; have n0_ := Aside0.mk (blk_below (g := gb103) (o := .cells #[.int .i64 x104000_19, .int .i64 x104001_19, .string x104002_19] 32 (0, 0)) (by (with_reducible repeat (first | refine blk_drewN ?_ _ | refine blk_drew ?_ | refine blk_alloc ?_ _)); exact BK103.out) hb); have n1_ := Aside0.mk (blk_below (g := gb104) (o := .cells #[.int .i64 x105000_19, .int .i64 x105001_19, .string x105002_19] 32 (0, 0)) (by (with_reducible repeat (first | refine blk_drewN ?_ _ | refine blk_drew ?_ | refine blk_alloc ?_ _)); exact BK104.out) hb); have n2_ := Aside0.mk (blk_below (g := gb114) (o := .cells #[.int .i64 t110, .int .i64 t111, .string t112] 32 (0, 0)) (by (with_reducible repeat (first | refine blk_drewN ?_ _ | refine blk_drew ?_ | refine blk_alloc ?_ _)); exact BK114.out) hb); have n3_ := Aside0.mk (blk_below (g := gb122) (o := .cells #[.int .i64 x123000_45, .int .i64 x123001_45, .string x123002_45] 32 (0, 0)) (by (with_reducible repeat (first | refine blk_drewN ?_ _ | refine blk_drew ?_ | refine blk_alloc ?_ _)); exact BK122.out) hb); have n4_ := Aside0.mk (below_step (by repeat (first | (with_reducible first | exact HB.out | apply below_alloc | apply pw_below_drewN | apply below_drew1 | refine below_set ?_ GE103.out | refine below_set ?_ GE104.out | refine below_set ?_ GE114.out | refine below_set ?_ GE122.out) | exact HB.out)) hb); clear BK103; clear BK104; clear BK114; clear BK122; clear HB; have BK103 := n0_; have BK104 := n1_; have BK114 := n2_; have BK122 := n3_; have HB := n4_; clear n0_ n1_ n2_ n3_ n4_; (try clear hb); (try clear hb2); (try clear hk); (try clear hi)) | (go_at_call 50; (with_reducible refine (oper_Event.calls t115 t128 _ A80.out).mono ?_); rintro e w101 ⟨rfl, hb⟩; have n0_ := Aside0.mk (blk_below (g := gb103) (o := .cells #[.int .i64 x104000_19, .int .i64 x104001_19, .string x104002_19] 32 (0, 0)) (by (with_reducible repeat (first | refine blk_drewN ?_ _ | refine blk_drew ?_ | refine blk_alloc ?_ _)); exact BK103.out) hb); have n1_ := Aside0.mk (blk_below (g := gb104) (o := .cells #[.int .i64 x105000_19, .int .i64 x105001_19, .string x105002_19] 32 (0, 0)) (by (with_reducible repeat (first | refine blk_drewN ?_ _ | refine blk_drew ?_ | refine blk_alloc ?_ _)); exact BK104.out) hb); have n2_ := Aside0.mk (blk_below (g := gb114) (o := .cells #[.int .i64 t110, .int .i64 t111, .string t112] 32 (0, 0)) (by (with_reducible repeat (first | refine blk_drewN ?_ _ | refine blk_drew ?_ | refine blk_alloc ?_ _)); exact BK114.out) hb); have n3_ := Aside0.mk (blk_below (g := gb122) (o := .cells #[.int .i64 x123000_45, .int .i64 x123001_45, .string x123002_45] 32 (0, 0)) (by (with_reducible repeat (first | refine blk_drewN ?_ _ | refine blk_drew ?_ | refine blk_alloc ?_ _)); exact BK122.out) hb); have n4_ := Aside0.mk (below_step (by repeat (first | (with_reducible first | exact HB.out | apply below_alloc | apply pw_below_drewN | apply below_drew1 | refine below_set ?_ GE103.out | refine below_set ?_ GE104.out | refine below_set ?_ GE114.out | refine below_set ?_ GE122.out) | exact HB.out)) hb); clear BK103; clear BK104; clear BK114; clear BK122; clear HB; have BK103 := n0_; have BK104 := n1_; have BK114 := n2_; have BK122 := n3_; have HB := n4_; clear n0_ n1_ n2_ n3_ n4_; (try clear hb); (try clear hb2); (try clear hk); (try clear hi)))
                        go_meet
                        case rel => exact ⟨_, (true), (by first | rfl | (simp; done) | (simp [*]; done) | (simp; exact TabW.bclose _ _) | (simp; exact TabW.bclose2 _)), H', ⟨by have := HJ19.out; have := HJ45.out; first | omega | exact Nat.le_refl _⟩, ⟨by (with_reducible repeat (first | refine blk_drewN ?_ _ | refine blk_drew ?_ | refine blk_alloc ?_ _)); exact BK103.out⟩, ⟨by (with_reducible repeat (first | refine blk_drewN ?_ _ | refine blk_drew ?_ | refine blk_alloc ?_ _)); exact BK104.out⟩, ⟨by (with_reducible repeat (first | refine blk_drewN ?_ _ | refine blk_drew ?_ | refine blk_alloc ?_ _)); exact BK114.out⟩, ⟨by (with_reducible repeat (first | refine blk_drewN ?_ _ | refine blk_drew ?_ | refine blk_alloc ?_ _)); exact BK122.out⟩, ⟨by repeat (first | (with_reducible first | exact HB.out | apply below_alloc | apply pw_below_drewN | apply below_drew1 | refine below_set ?_ GE103.out | refine below_set ?_ GE104.out | refine below_set ?_ GE114.out | refine below_set ?_ GE122.out) | exact HB.out)⟩⟩
                  · rw [if_neg c70] at H
                    have c70b0 : (t113 == 0) = false := beq_eq_false_iff_ne.mpr c70
                    have c70b1 : (t113 != 0) = true := bne_iff_ne.mpr c70
                    replace H := Option.bind_eq_some_iff.mp H
                    obtain ⟨t130, A1020, H⟩ := H
                    replace H : ((oper_Event.f t115).bind fun t131 => (if t130.toList = t131.toList then ((oper_Event.f (wrap64 (1 + (Int.tmod (wrap64 (a0)) 17)))).bind fun t132 => (selkielaw11_OperSwaps.j2 kj45 t113 t115 (t132.toList == ([] : List UInt8)) x104000_19 x104001_19 x104002_19 x105000_19 x105001_19 x105002_19)) else (selkielaw11_OperSwaps.j2 kj45 t113 t115 true x104000_19 x104001_19 x104002_19 x105000_19 x105001_19 x105002_19))) = some r := H
                    have A102 := Aside0.mk A1020
                    clear A1020
                    replace H := Option.bind_eq_some_iff.mp H
                    obtain ⟨t131, A1030, H⟩ := H
                    replace H : (if t130.toList = t131.toList then ((oper_Event.f (wrap64 (1 + (Int.tmod (wrap64 (a0)) 17)))).bind fun t132 => (selkielaw11_OperSwaps.j2 kj45 t113 t115 (t132.toList == ([] : List UInt8)) x104000_19 x104001_19 x104002_19 x105000_19 x105001_19 x105002_19)) else (selkielaw11_OperSwaps.j2 kj45 t113 t115 true x104000_19 x104001_19 x104002_19 x105000_19 x105001_19 x105002_19)) = some r := H
                    have A103 := Aside0.mk A1030
                    clear A1030
                    by_cases c104 : t130.toList = t131.toList
                    · rw [if_pos c104] at H
                      have c104b0 : (t130.toList == t131.toList) = true := beq_iff_eq.mpr c104
                      have c104b1 : (t130.toList != t131.toList) = false := bne_eq_false_iff_eq.mpr c104
                      clear c104
                      replace H := Option.bind_eq_some_iff.mp H
                      obtain ⟨t132, A1050, H⟩ := H
                      replace H : (selkielaw11_OperSwaps.j2 kj45 t113 t115 (t132.toList == ([] : List UInt8)) x104000_19 x104001_19 x104002_19 x105000_19 x105001_19 x105002_19) = some r := H
                      have A105 := Aside0.mk A1050
                      clear A1050
                      have H' := Aside0.mk H
                      clear H
                      go_wp2_with (first | (go_at_call 50; (with_reducible refine (oper_Event.calls (wrap64 (1 + (Int.tmod (wrap64 (a0)) 17))) t130 _ A102.out).mono ?_); rintro e w106 ⟨rfl, hb⟩; have n0_ := Aside0.mk (blk_below (g := gb103) (o := .cells #[.int .i64 x104000_19, .int .i64 x104001_19, .string x104002_19] 32 (0, 0)) (by (with_reducible repeat (first | refine blk_drewN ?_ _ | refine blk_drew ?_ | refine blk_alloc ?_ _)); exact BK103.out) hb); have n1_ := Aside0.mk (blk_below (g := gb104) (o := .cells #[.int .i64 x105000_19, .int .i64 x105001_19, .string x105002_19] 32 (0, 0)) (by (with_reducible repeat (first | refine blk_drewN ?_ _ | refine blk_drew ?_ | refine blk_alloc ?_ _)); exact BK104.out) hb); have n2_ := Aside0.mk (blk_below (g := gb114) (o := .cells #[.int .i64 t110, .int .i64 t111, .string t112] 32 (0, 0)) (by (with_reducible repeat (first | refine blk_drewN ?_ _ | refine blk_drew ?_ | refine blk_alloc ?_ _)); exact BK114.out) hb); have n3_ := Aside0.mk (blk_below (g := gb122) (o := .cells #[.int .i64 x123000_45, .int .i64 x123001_45, .string x123002_45] 32 (0, 0)) (by (with_reducible repeat (first | refine blk_drewN ?_ _ | refine blk_drew ?_ | refine blk_alloc ?_ _)); exact BK122.out) hb); have n4_ := Aside0.mk (below_step (by repeat (first | (with_reducible first | exact HB.out | apply below_alloc | apply pw_below_drewN | apply below_drew1 | refine below_set ?_ GE103.out | refine below_set ?_ GE104.out | refine below_set ?_ GE114.out | refine below_set ?_ GE122.out) | exact HB.out)) hb); clear BK103; clear BK104; clear BK114; clear BK122; clear HB; have BK103 := n0_; have BK104 := n1_; have BK114 := n2_; have BK122 := n3_; have HB := n4_; clear n0_ n1_ n2_ n3_ n4_; (try clear hb); (try clear hb2); (try clear hk); (try clear hi)) | (go_at_call 50; (with_reducible refine (oper_Event.calls t115 t131 _ A103.out).mono ?_); rintro e w107 ⟨rfl, hb⟩; have n0_ := Aside0.mk (blk_below (g := gb103) (o := .cells #[.int .i64 x104000_19, .int .i64 x104001_19, .string x104002_19] 32 (0, 0)) (by (with_reducible repeat (first | refine blk_drewN ?_ _ | refine blk_drew ?_ | refine blk_alloc ?_ _)); exact BK103.out) hb); have n1_ := Aside0.mk (blk_below (g := gb104) (o := .cells #[.int .i64 x105000_19, .int .i64 x105001_19, .string x105002_19] 32 (0, 0)) (by (with_reducible repeat (first | refine blk_drewN ?_ _ | refine blk_drew ?_ | refine blk_alloc ?_ _)); exact BK104.out) hb); have n2_ := Aside0.mk (blk_below (g := gb114) (o := .cells #[.int .i64 t110, .int .i64 t111, .string t112] 32 (0, 0)) (by (with_reducible repeat (first | refine blk_drewN ?_ _ | refine blk_drew ?_ | refine blk_alloc ?_ _)); exact BK114.out) hb); have n3_ := Aside0.mk (blk_below (g := gb122) (o := .cells #[.int .i64 x123000_45, .int .i64 x123001_45, .string x123002_45] 32 (0, 0)) (by (with_reducible repeat (first | refine blk_drewN ?_ _ | refine blk_drew ?_ | refine blk_alloc ?_ _)); exact BK122.out) hb); have n4_ := Aside0.mk (below_step (by repeat (first | (with_reducible first | exact HB.out | apply below_alloc | apply pw_below_drewN | apply below_drew1 | refine below_set ?_ GE103.out | refine below_set ?_ GE104.out | refine below_set ?_ GE114.out | refine below_set ?_ GE122.out) | exact HB.out)) hb); clear BK103; clear BK104; clear BK114; clear BK122; clear HB; have BK103 := n0_; have BK104 := n1_; have BK114 := n2_; have BK122 := n3_; have HB := n4_; clear n0_ n1_ n2_ n3_ n4_; (try clear hb); (try clear hb2); (try clear hk); (try clear hi)) | (go_at_call 50; (with_reducible refine (oper_Event.calls (wrap64 (1 + (Int.tmod (wrap64 (a0)) 17))) t132 _ A105.out).mono ?_); rintro e w108 ⟨rfl, hb⟩; have n0_ := Aside0.mk (blk_below (g := gb103) (o := .cells #[.int .i64 x104000_19, .int .i64 x104001_19, .string x104002_19] 32 (0, 0)) (by (with_reducible repeat (first | refine blk_drewN ?_ _ | refine blk_drew ?_ | refine blk_alloc ?_ _)); exact BK103.out) hb); have n1_ := Aside0.mk (blk_below (g := gb104) (o := .cells #[.int .i64 x105000_19, .int .i64 x105001_19, .string x105002_19] 32 (0, 0)) (by (with_reducible repeat (first | refine blk_drewN ?_ _ | refine blk_drew ?_ | refine blk_alloc ?_ _)); exact BK104.out) hb); have n2_ := Aside0.mk (blk_below (g := gb114) (o := .cells #[.int .i64 t110, .int .i64 t111, .string t112] 32 (0, 0)) (by (with_reducible repeat (first | refine blk_drewN ?_ _ | refine blk_drew ?_ | refine blk_alloc ?_ _)); exact BK114.out) hb); have n3_ := Aside0.mk (blk_below (g := gb122) (o := .cells #[.int .i64 x123000_45, .int .i64 x123001_45, .string x123002_45] 32 (0, 0)) (by (with_reducible repeat (first | refine blk_drewN ?_ _ | refine blk_drew ?_ | refine blk_alloc ?_ _)); exact BK122.out) hb); have n4_ := Aside0.mk (below_step (by repeat (first | (with_reducible first | exact HB.out | apply below_alloc | apply pw_below_drewN | apply below_drew1 | refine below_set ?_ GE103.out | refine below_set ?_ GE104.out | refine below_set ?_ GE114.out | refine below_set ?_ GE122.out) | exact HB.out)) hb); clear BK103; clear BK104; clear BK114; clear BK122; clear HB; have BK103 := n0_; have BK104 := n1_; have BK114 := n2_; have BK122 := n3_; have HB := n4_; clear n0_ n1_ n2_ n3_ n4_; (try clear hb); (try clear hb2); (try clear hk); (try clear hi)))
                      go_meet
                      case rel => exact ⟨_, ((t132.toList == ([] : List UInt8))), (by rw [Option.some.inj (A102.out.symm.trans A105.out)]; first | rfl | (simp; done) | (simp [*]; done) | (simp; exact TabW.bclose _ _) | (simp; exact TabW.bclose2 _)), H', ⟨by have := HJ19.out; have := HJ45.out; first | omega | exact Nat.le_refl _⟩, ⟨by (with_reducible repeat (first | refine blk_drewN ?_ _ | refine blk_drew ?_ | refine blk_alloc ?_ _)); exact BK103.out⟩, ⟨by (with_reducible repeat (first | refine blk_drewN ?_ _ | refine blk_drew ?_ | refine blk_alloc ?_ _)); exact BK104.out⟩, ⟨by (with_reducible repeat (first | refine blk_drewN ?_ _ | refine blk_drew ?_ | refine blk_alloc ?_ _)); exact BK114.out⟩, ⟨by (with_reducible repeat (first | refine blk_drewN ?_ _ | refine blk_drew ?_ | refine blk_alloc ?_ _)); exact BK122.out⟩, ⟨by repeat (first | (with_reducible first | exact HB.out | apply below_alloc | apply pw_below_drewN | apply below_drew1 | refine below_set ?_ GE103.out | refine below_set ?_ GE104.out | refine below_set ?_ GE114.out | refine below_set ?_ GE122.out) | exact HB.out)⟩⟩
                    · rw [if_neg c104] at H
                      have c104b0 : (t130.toList == t131.toList) = false := beq_eq_false_iff_ne.mpr c104
                      have c104b1 : (t130.toList != t131.toList) = true := bne_iff_ne.mpr c104
                      have H' := Aside0.mk H
                      clear H
                      go_wp2_with (first | (go_at_call 50; (with_reducible refine (oper_Event.calls (wrap64 (1 + (Int.tmod (wrap64 (a0)) 17))) t130 _ A102.out).mono ?_); rintro e w109 ⟨rfl, hb⟩; have n0_ := Aside0.mk (blk_below (g := gb103) (o := .cells #[.int .i64 x104000_19, .int .i64 x104001_19, .string x104002_19] 32 (0, 0)) (by (with_reducible repeat (first | refine blk_drewN ?_ _ | refine blk_drew ?_ | refine blk_alloc ?_ _)); exact BK103.out) hb); have n1_ := Aside0.mk (blk_below (g := gb104) (o := .cells #[.int .i64 x105000_19, .int .i64 x105001_19, .string x105002_19] 32 (0, 0)) (by (with_reducible repeat (first | refine blk_drewN ?_ _ | refine blk_drew ?_ | refine blk_alloc ?_ _)); exact BK104.out) hb); have n2_ := Aside0.mk (blk_below (g := gb114) (o := .cells #[.int .i64 t110, .int .i64 t111, .string t112] 32 (0, 0)) (by (with_reducible repeat (first | refine blk_drewN ?_ _ | refine blk_drew ?_ | refine blk_alloc ?_ _)); exact BK114.out) hb); have n3_ := Aside0.mk (blk_below (g := gb122) (o := .cells #[.int .i64 x123000_45, .int .i64 x123001_45, .string x123002_45] 32 (0, 0)) (by (with_reducible repeat (first | refine blk_drewN ?_ _ | refine blk_drew ?_ | refine blk_alloc ?_ _)); exact BK122.out) hb); have n4_ := Aside0.mk (below_step (by repeat (first | (with_reducible first | exact HB.out | apply below_alloc | apply pw_below_drewN | apply below_drew1 | refine below_set ?_ GE103.out | refine below_set ?_ GE104.out | refine below_set ?_ GE114.out | refine below_set ?_ GE122.out) | exact HB.out)) hb); clear BK103; clear BK104; clear BK114; clear BK122; clear HB; have BK103 := n0_; have BK104 := n1_; have BK114 := n2_; have BK122 := n3_; have HB := n4_; clear n0_ n1_ n2_ n3_ n4_; (try clear hb); (try clear hb2); (try clear hk); (try clear hi)) | (go_at_call 50; (with_reducible refine (oper_Event.calls t115 t131 _ A103.out).mono ?_); rintro e w110 ⟨rfl, hb⟩; have n0_ := Aside0.mk (blk_below (g := gb103) (o := .cells #[.int .i64 x104000_19, .int .i64 x104001_19, .string x104002_19] 32 (0, 0)) (by (with_reducible repeat (first | refine blk_drewN ?_ _ | refine blk_drew ?_ | refine blk_alloc ?_ _)); exact BK103.out) hb); have n1_ := Aside0.mk (blk_below (g := gb104) (o := .cells #[.int .i64 x105000_19, .int .i64 x105001_19, .string x105002_19] 32 (0, 0)) (by (with_reducible repeat (first | refine blk_drewN ?_ _ | refine blk_drew ?_ | refine blk_alloc ?_ _)); exact BK104.out) hb); have n2_ := Aside0.mk (blk_below (g := gb114) (o := .cells #[.int .i64 t110, .int .i64 t111, .string t112] 32 (0, 0)) (by (with_reducible repeat (first | refine blk_drewN ?_ _ | refine blk_drew ?_ | refine blk_alloc ?_ _)); exact BK114.out) hb); have n3_ := Aside0.mk (blk_below (g := gb122) (o := .cells #[.int .i64 x123000_45, .int .i64 x123001_45, .string x123002_45] 32 (0, 0)) (by (with_reducible repeat (first | refine blk_drewN ?_ _ | refine blk_drew ?_ | refine blk_alloc ?_ _)); exact BK122.out) hb); have n4_ := Aside0.mk (below_step (by repeat (first | (with_reducible first | exact HB.out | apply below_alloc | apply pw_below_drewN | apply below_drew1 | refine below_set ?_ GE103.out | refine below_set ?_ GE104.out | refine below_set ?_ GE114.out | refine below_set ?_ GE122.out) | exact HB.out)) hb); clear BK103; clear BK104; clear BK114; clear BK122; clear HB; have BK103 := n0_; have BK104 := n1_; have BK114 := n2_; have BK122 := n3_; have HB := n4_; clear n0_ n1_ n2_ n3_ n4_; (try clear hb); (try clear hb2); (try clear hk); (try clear hi)))
                      go_meet
                      case rel => exact ⟨_, (true), (by first | rfl | (simp; done) | (simp [*]; done) | (simp; exact TabW.bclose _ _) | (simp; exact TabW.bclose2 _)), H', ⟨by have := HJ19.out; have := HJ45.out; first | omega | exact Nat.le_refl _⟩, ⟨by (with_reducible repeat (first | refine blk_drewN ?_ _ | refine blk_drew ?_ | refine blk_alloc ?_ _)); exact BK103.out⟩, ⟨by (with_reducible repeat (first | refine blk_drewN ?_ _ | refine blk_drew ?_ | refine blk_alloc ?_ _)); exact BK104.out⟩, ⟨by (with_reducible repeat (first | refine blk_drewN ?_ _ | refine blk_drew ?_ | refine blk_alloc ?_ _)); exact BK114.out⟩, ⟨by (with_reducible repeat (first | refine blk_drewN ?_ _ | refine blk_drew ?_ | refine blk_alloc ?_ _)); exact BK122.out⟩, ⟨by repeat (first | (with_reducible first | exact HB.out | apply below_alloc | apply pw_below_drewN | apply below_drew1 | refine below_set ?_ GE103.out | refine below_set ?_ GE104.out | refine below_set ?_ GE114.out | refine below_set ?_ GE122.out) | exact HB.out)⟩⟩
                · rw [if_neg c69] at H
                  have c69b0 : (t113 == t121) = false := beq_eq_false_iff_ne.mpr c69
                  have c69b1 : (t113 != t121) = true := bne_iff_ne.mpr c69
                  (first | rw [c69b0] | (simp only [i64_w, i32_w]; rw [c69b0]) | skip)
                  have H' := Aside0.mk H
                  clear H
                  go_wp2
                  go_meet
                  case rel => exact ⟨_, (true), (by first | rfl | (simp; done) | (simp [*]; done) | (simp; exact TabW.bclose _ _) | (simp; exact TabW.bclose2 _)), H', ⟨by have := HJ19.out; have := HJ45.out; first | omega | exact Nat.le_refl _⟩, ⟨by (with_reducible repeat (first | refine blk_drewN ?_ _ | refine blk_drew ?_ | refine blk_alloc ?_ _)); exact BK103.out⟩, ⟨by (with_reducible repeat (first | refine blk_drewN ?_ _ | refine blk_drew ?_ | refine blk_alloc ?_ _)); exact BK104.out⟩, ⟨by (with_reducible repeat (first | refine blk_drewN ?_ _ | refine blk_drew ?_ | refine blk_alloc ?_ _)); exact BK114.out⟩, ⟨by (with_reducible repeat (first | refine blk_drewN ?_ _ | refine blk_drew ?_ | refine blk_alloc ?_ _)); exact BK122.out⟩, ⟨by repeat (first | (with_reducible first | exact HB.out | apply below_alloc | apply pw_below_drewN | apply below_drew1 | refine below_set ?_ GE103.out | refine below_set ?_ GE104.out | refine below_set ?_ GE114.out | refine below_set ?_ GE122.out) | exact HB.out)⟩⟩
              case rest =>
                clear HC68
                try clear c1
                try clear c2
                try clear p2
                try clear c3
                try clear c4
                try clear c5
                try clear c6
                try clear p6
                try clear c7
                try clear c8
                try clear c9
                try clear c10
                try clear c11
                try clear c24
                try clear c35
                try clear c36
                try clear c39
                try clear c40
                try clear c41
                try clear c43
                try clear c44
                try clear c46
                try clear c47
                try clear c48
                try clear c49
                try clear c50
                try clear c54
                try clear c55
                try clear c56
                try clear c58
                try clear c61
                try clear c62
                try clear c63
                try clear p64
                try clear c69
                try clear c69b0
                try clear c69b1
                try clear c70
                try clear c70b0
                try clear c70b1
                try clear c71
                try clear c71b0
                try clear c72
                try clear c73
                try clear c74
                try clear c76
                try clear c77
                try clear c81
                try clear c81b0
                try clear c81b1
                try clear c83
                try clear c84
                try clear c85
                try clear c87
                try clear c88
                try clear c93
                try clear c94
                try clear c95
                try clear c97
                try clear c98
                try clear c104
                try clear c104b0
                try clear c104b1
                try clear hcz12_0
                try clear hcz12_1
                try clear hcz12_2
                try clear hcz13_0
                try clear hcz13_1
                try clear hcz13_2
                try clear hcz25_0
                try clear hcz25_1
                try clear hcz25_2
                try clear hcz26_0
                try clear hcz26_1
                try clear hcz26_2
                try clear hcz31_0
                try clear hcz31_1
                try clear hcz31_2
                try clear hcz32_0
                try clear hcz32_1
                try clear hcz32_2
                try clear hcz37_0
                try clear hcz37_1
                try clear hcz37_2
                try clear hcz42_0
                try clear hcz42_1
                try clear hcz42_2
                try clear hcz44_0
                try clear hcz44_1
                try clear hcz44_2
                try clear hcz49_0
                try clear hcz49_1
                try clear hcz49_2
                try clear hcz51_0
                try clear hcz51_1
                try clear hcz51_2
                try clear hcz57_0
                try clear hcz57_1
                try clear hcz57_2
                try clear hcz64_0
                try clear hcz64_1
                try clear hcz64_2
                try clear hcz67_0
                try clear hcz67_1
                try clear hcz67_2
                try clear hcz75_0
                try clear hcz75_1
                try clear hcz75_2
                try clear hcz78_0
                try clear hcz78_1
                try clear hcz78_2
                try clear hcz86_0
                try clear hcz86_1
                try clear hcz86_2
                try clear hcz89_0
                try clear hcz89_1
                try clear hcz89_2
                try clear hcz96_0
                try clear hcz96_1
                try clear hcz96_2
                try clear hcz99_0
                try clear hcz99_1
                try clear hcz99_2
                try clear hfz12_0
                try clear hfz12_1
                try clear hfz12_2
                try clear hfz13_0
                try clear hfz13_1
                try clear hfz13_2
                try clear hfz25_0
                try clear hfz25_1
                try clear hfz25_2
                try clear hfz26_0
                try clear hfz26_1
                try clear hfz26_2
                try clear hfz31_0
                try clear hfz31_1
                try clear hfz31_2
                try clear hfz32_0
                try clear hfz32_1
                try clear hfz32_2
                try clear hfz37_0
                try clear hfz37_1
                try clear hfz37_2
                try clear hfz42_0
                try clear hfz42_1
                try clear hfz42_2
                try clear hfz44_0
                try clear hfz44_1
                try clear hfz44_2
                try clear hfz49_0
                try clear hfz49_1
                try clear hfz49_2
                try clear hfz51_0
                try clear hfz51_1
                try clear hfz51_2
                try clear hfz57_0
                try clear hfz57_1
                try clear hfz57_2
                try clear hfz64_0
                try clear hfz64_1
                try clear hfz64_2
                try clear hfz67_0
                try clear hfz67_1
                try clear hfz67_2
                try clear hfz75_0
                try clear hfz75_1
                try clear hfz75_2
                try clear hfz78_0
                try clear hfz78_1
                try clear hfz78_2
                try clear hfz86_0
                try clear hfz86_1
                try clear hfz86_2
                try clear hfz89_0
                try clear hfz89_1
                try clear hfz89_2
                try clear hfz96_0
                try clear hfz96_1
                try clear hfz96_2
                try clear hfz99_0
                try clear hfz99_1
                try clear hfz99_2
                try clear p2
                try clear p6
                try clear p64
                obtain ⟨kq, x79_67, rfl, HA, HJ67, BK103, BK104, BK114, BK122, HB⟩ := hcut
                cases kq with
                | zero => exact absurd HA.out (by simp [selkielaw11_OperSwaps.j2])
                | succ kj67 =>
                  have H := HA.out
                  clear HA
                  simp only [selkielaw11_OperSwaps.j2] at H
                  by_cases c111 : x79_67 = true
                  · subst c111
                    have H1 : (some false) = some r := by rw [if_pos rfl] at H; exact H
                    clear H
                    have H := H1
                    clear H1
                    exact absurd (Option.some.inj H) (by rw [HR.out]; decide)
                  · replace c111 := Bool.eq_false_iff.mpr c111
                    subst c111
                    have H1 : ((oper_Swap.f t115).bind fun bt133 => (if bt133.2.1 = true then (some false) else (if bt133.2.2 = true then (some false) else (if t113 = 18 then ((oper_Blame.f t115 x104000_19 x104001_19 x104002_19 x105000_19 x105001_19 x105002_19).bind fun t136 => (some (t136.toList != ([] : List UInt8)))) else (some true))))) = some r := by rw [if_neg (show ¬ (false = true) by decide)] at H; exact H
                    clear H
                    have H := H1
                    clear H1
                    replace H := Option.bind_eq_some_iff.mp H
                    obtain ⟨⟨t133, t134, t135⟩, A1120, H⟩ := H
                    replace H : (if t134 = true then (some false) else (if t135 = true then (some false) else (if t113 = 18 then ((oper_Blame.f t115 x104000_19 x104001_19 x104002_19 x105000_19 x105001_19 x105002_19).bind fun t136 => (some (t136.toList != ([] : List UInt8)))) else (some true)))) = some r := H
                    have A112 := Aside0.mk A1120
                    clear A1120
                    by_cases c113 : t134 = true
                    · subst c113
                      have H1 : (some false) = some r := by rw [if_pos rfl] at H; exact H
                      clear H
                      have H := H1
                      clear H1
                      exact absurd (Option.some.inj H) (by rw [HR.out]; decide)
                    · replace c113 := Bool.eq_false_iff.mpr c113
                      subst c113
                      have H1 : (if t135 = true then (some false) else (if t113 = 18 then ((oper_Blame.f t115 x104000_19 x104001_19 x104002_19 x105000_19 x105001_19 x105002_19).bind fun t136 => (some (t136.toList != ([] : List UInt8)))) else (some true))) = some r := by rw [if_neg (show ¬ (false = true) by decide)] at H; exact H
                      clear H
                      have H := H1
                      clear H1
                      by_cases c114 : t135 = true
                      · subst c114
                        have H1 : (some false) = some r := by rw [if_pos rfl] at H; exact H
                        clear H
                        have H := H1
                        clear H1
                        exact absurd (Option.some.inj H) (by rw [HR.out]; decide)
                      · replace c114 := Bool.eq_false_iff.mpr c114
                        subst c114
                        have H1 : (if t113 = 18 then ((oper_Blame.f t115 x104000_19 x104001_19 x104002_19 x105000_19 x105001_19 x105002_19).bind fun t136 => (some (t136.toList != ([] : List UInt8)))) else (some true)) = some r := by rw [if_neg (show ¬ (false = true) by decide)] at H; exact H
                        clear H
                        have H := H1
                        clear H1
                        by_cases c115 : t113 = 18
                        · rw [if_pos c115] at H
                          have c115b0 : (t113 == 18) = true := beq_iff_eq.mpr c115
                          have c115b1 : (t113 != 18) = false := bne_eq_false_iff_eq.mpr c115
                          clear c115
                          replace H := Option.bind_eq_some_iff.mp H
                          obtain ⟨t136, A1160, H⟩ := H
                          replace H : (some (t136.toList != ([] : List UInt8))) = some r := H
                          have A116 := Aside0.mk A1160
                          clear A1160
                          obtain rfl := Option.some.inj H
                          go_wp2_with (first | ((with_reducible refine gate_callee (f := 48) rfl ?_); refine goesL_ (some 82) rfl rfl Tryd.func48 (by kernel_rfl) rfl #[.int .i64 t115] rfl (by (try simp only [List.map_toArray, List.map_cons, List.map_nil]); first | done | rfl | (simp only [List.length_drop, List.length_take]; rfl)) ?_; (with_reducible refine (oper_Swap.calls t115 t133 false false _ A112.out).mono ?_); rintro e w117 ⟨rfl, hb⟩; refine ⟨_, rfl, ?_⟩; have n0_ := Aside0.mk (blk_below (g := gb103) (o := .cells #[.int .i64 x104000_19, .int .i64 x104001_19, .string x104002_19] 32 (0, 0)) (by (with_reducible repeat (first | refine blk_drewN ?_ _ | refine blk_drew ?_ | refine blk_alloc ?_ _)); exact BK103.out) hb); have n1_ := Aside0.mk (blk_below (g := gb104) (o := .cells #[.int .i64 x105000_19, .int .i64 x105001_19, .string x105002_19] 32 (0, 0)) (by (with_reducible repeat (first | refine blk_drewN ?_ _ | refine blk_drew ?_ | refine blk_alloc ?_ _)); exact BK104.out) hb); have n2_ := Aside0.mk (blk_below (g := gb114) (o := .cells #[.int .i64 t110, .int .i64 t111, .string t112] 32 (0, 0)) (by (with_reducible repeat (first | refine blk_drewN ?_ _ | refine blk_drew ?_ | refine blk_alloc ?_ _)); exact BK114.out) hb); have n3_ := Aside0.mk (blk_below (g := gb122) (o := .cells #[.int .i64 x123000_45, .int .i64 x123001_45, .string x123002_45] 32 (0, 0)) (by (with_reducible repeat (first | refine blk_drewN ?_ _ | refine blk_drew ?_ | refine blk_alloc ?_ _)); exact BK122.out) hb); have n4_ := Aside0.mk (below_step (by repeat (first | (with_reducible first | exact HB.out | apply below_alloc | apply pw_below_drewN | apply below_drew1 | refine below_set ?_ GE103.out | refine below_set ?_ GE104.out | refine below_set ?_ GE114.out | refine below_set ?_ GE122.out) | exact HB.out)) hb); clear BK103; clear BK104; clear BK114; clear BK122; clear HB; have BK103 := n0_; have BK104 := n1_; have BK114 := n2_; have BK122 := n3_; have HB := n4_; clear n0_ n1_ n2_ n3_ n4_; (try clear hb); (try clear hb2); (try clear hk); (try clear hi); have hnb118 := NB103_104.out; have hnc118 := NB104_103.out; have hnb119 := NB103_114.out; have hnc119 := NB114_103.out; have hnb120 := NB103_122.out; have hnc120 := NB122_103.out; have hcz121_0 : w117.cell? ⟨gb103, 0, none⟩ = some (.int .i64 x104000_19) := (blk_cell BK103.out 0).trans rfl; have hcz121_1 : w117.cell? ⟨gb103, 1, none⟩ = some (.int .i64 x104001_19) := (blk_cell BK103.out 1).trans rfl; have hcz121_2 : w117.cell? ⟨gb103, 2, none⟩ = some (.string x104002_19) := (blk_cell BK103.out 2).trans rfl; have hfz121_0 := blk_frozen BK103.out 0; have hfz121_1 := blk_frozen BK103.out 1; have hfz121_2 := blk_frozen BK103.out 2; have hnb122 := NB104_114.out; have hnc122 := NB114_104.out; have hnb123 := NB104_122.out; have hnc123 := NB122_104.out; have hcz124_0 : w117.cell? ⟨gb104, 0, none⟩ = some (.int .i64 x105000_19) := (blk_cell BK104.out 0).trans rfl; have hcz124_1 : w117.cell? ⟨gb104, 1, none⟩ = some (.int .i64 x105001_19) := (blk_cell BK104.out 1).trans rfl; have hcz124_2 : w117.cell? ⟨gb104, 2, none⟩ = some (.string x105002_19) := (blk_cell BK104.out 2).trans rfl; have hfz124_0 := blk_frozen BK104.out 0; have hfz124_1 := blk_frozen BK104.out 1; have hfz124_2 := blk_frozen BK104.out 2) | (go_at_call 51; (with_reducible refine (oper_Blame.calls t115 x104000_19 x104001_19 x104002_19 x105000_19 x105001_19 x105002_19 t136 _ (HTT.out.on (by repeat (first | (with_reducible first | exact HB.out | apply below_alloc | apply pw_below_drewN | apply below_drew1 | refine below_set ?_ GE103.out | refine below_set ?_ GE104.out | refine below_set ?_ GE114.out | refine below_set ?_ GE122.out) | exact HB.out))) A116.out).mono ?_); rintro e w125 ⟨rfl, hb⟩; have n0_ := Aside0.mk (blk_below (g := gb103) (o := .cells #[.int .i64 x104000_19, .int .i64 x104001_19, .string x104002_19] 32 (0, 0)) (by (with_reducible repeat (first | refine blk_drewN ?_ _ | refine blk_drew ?_ | refine blk_alloc ?_ _)); exact BK103.out) hb); have n1_ := Aside0.mk (blk_below (g := gb104) (o := .cells #[.int .i64 x105000_19, .int .i64 x105001_19, .string x105002_19] 32 (0, 0)) (by (with_reducible repeat (first | refine blk_drewN ?_ _ | refine blk_drew ?_ | refine blk_alloc ?_ _)); exact BK104.out) hb); have n2_ := Aside0.mk (blk_below (g := gb114) (o := .cells #[.int .i64 t110, .int .i64 t111, .string t112] 32 (0, 0)) (by (with_reducible repeat (first | refine blk_drewN ?_ _ | refine blk_drew ?_ | refine blk_alloc ?_ _)); exact BK114.out) hb); have n3_ := Aside0.mk (blk_below (g := gb122) (o := .cells #[.int .i64 x123000_45, .int .i64 x123001_45, .string x123002_45] 32 (0, 0)) (by (with_reducible repeat (first | refine blk_drewN ?_ _ | refine blk_drew ?_ | refine blk_alloc ?_ _)); exact BK122.out) hb); have n4_ := Aside0.mk (below_step (by repeat (first | (with_reducible first | exact HB.out | apply below_alloc | apply pw_below_drewN | apply below_drew1 | refine below_set ?_ GE103.out | refine below_set ?_ GE104.out | refine below_set ?_ GE114.out | refine below_set ?_ GE122.out) | exact HB.out)) hb); clear BK103; clear BK104; clear BK114; clear BK122; clear HB; have BK103 := n0_; have BK104 := n1_; have BK114 := n2_; have BK122 := n3_; have HB := n4_; clear n0_ n1_ n2_ n3_ n4_; (try clear hb); (try clear hb2); (try clear hk); (try clear hi)))
                          go_ret
                          exact ⟨by first | rfl | (simp [errW_none, errW_some] <;> rfl) | (simp [*, errW_none, errW_some] <;> rfl) | (simp; exact TabW.bclose2 _), by repeat (first | (with_reducible first | exact HB.out | apply below_alloc | apply pw_below_drewN | apply below_drew1 | refine below_set ?_ GE103.out | refine below_set ?_ GE104.out | refine below_set ?_ GE114.out | refine below_set ?_ GE122.out) | exact HB.out)⟩
                        · rw [if_neg c115] at H
                          have c115b0 : (t113 == 18) = false := beq_eq_false_iff_ne.mpr c115
                          have c115b1 : (t113 != 18) = true := bne_iff_ne.mpr c115
                          obtain rfl := Option.some.inj H
                          go_wp2_with (first | ((with_reducible refine gate_callee (f := 48) rfl ?_); refine goesL_ (some 82) rfl rfl Tryd.func48 (by kernel_rfl) rfl #[.int .i64 t115] rfl (by (try simp only [List.map_toArray, List.map_cons, List.map_nil]); first | done | rfl | (simp only [List.length_drop, List.length_take]; rfl)) ?_; (with_reducible refine (oper_Swap.calls t115 t133 false false _ A112.out).mono ?_); rintro e w126 ⟨rfl, hb⟩; refine ⟨_, rfl, ?_⟩; have n0_ := Aside0.mk (blk_below (g := gb103) (o := .cells #[.int .i64 x104000_19, .int .i64 x104001_19, .string x104002_19] 32 (0, 0)) (by (with_reducible repeat (first | refine blk_drewN ?_ _ | refine blk_drew ?_ | refine blk_alloc ?_ _)); exact BK103.out) hb); have n1_ := Aside0.mk (blk_below (g := gb104) (o := .cells #[.int .i64 x105000_19, .int .i64 x105001_19, .string x105002_19] 32 (0, 0)) (by (with_reducible repeat (first | refine blk_drewN ?_ _ | refine blk_drew ?_ | refine blk_alloc ?_ _)); exact BK104.out) hb); have n2_ := Aside0.mk (blk_below (g := gb114) (o := .cells #[.int .i64 t110, .int .i64 t111, .string t112] 32 (0, 0)) (by (with_reducible repeat (first | refine blk_drewN ?_ _ | refine blk_drew ?_ | refine blk_alloc ?_ _)); exact BK114.out) hb); have n3_ := Aside0.mk (blk_below (g := gb122) (o := .cells #[.int .i64 x123000_45, .int .i64 x123001_45, .string x123002_45] 32 (0, 0)) (by (with_reducible repeat (first | refine blk_drewN ?_ _ | refine blk_drew ?_ | refine blk_alloc ?_ _)); exact BK122.out) hb); have n4_ := Aside0.mk (below_step (by repeat (first | (with_reducible first | exact HB.out | apply below_alloc | apply pw_below_drewN | apply below_drew1 | refine below_set ?_ GE103.out | refine below_set ?_ GE104.out | refine below_set ?_ GE114.out | refine below_set ?_ GE122.out) | exact HB.out)) hb); clear BK103; clear BK104; clear BK114; clear BK122; clear HB; have BK103 := n0_; have BK104 := n1_; have BK114 := n2_; have BK122 := n3_; have HB := n4_; clear n0_ n1_ n2_ n3_ n4_; (try clear hb); (try clear hb2); (try clear hk); (try clear hi)))
                          go_ret
                          exact ⟨by first | rfl | (simp [errW_none, errW_some] <;> rfl) | (simp [*, errW_none, errW_some] <;> rfl) | (simp; exact TabW.bclose2 _), by repeat (first | (with_reducible first | exact HB.out | apply below_alloc | apply pw_below_drewN | apply below_drew1 | refine below_set ?_ GE103.out | refine below_set ?_ GE104.out | refine below_set ?_ GE114.out | refine below_set ?_ GE122.out) | exact HB.out)⟩
  · replace c5 := Bool.eq_false_iff.mpr c5
    subst c5
    have H1 : (some false) = some r := by rw [if_neg (show ¬ (false = true) by decide)] at H; exact H
    clear H
    have H := H1
    clear H1
    exact absurd (Option.some.inj H) (by rw [HR.out]; decide)

end Go.Proofs.YtpgpmldaggpciaaDoor.PSw
