/- Layer 12: the statements' own small functions. -/
import Derived.Test.YtmjfmfelbmbniaaShD
namespace Go.Proofs.Ytmjfmfelbmbniaa
open Go.RowKit Go.Maps HK ShM
set_option linter.unusedVariables false
set_option linter.unusedSimpArgs false
attribute [local go_sem ↓] run_max_two run_min_two
/-- A slice of steps that is only read. -/
def RdT (w : World) (v : Value) (l : List (Int × ByteArray)) : Prop := ∃ a c, v = .slice a l.length c ∧ l.length ≤ c ∧ c ≤ maxLen ∧ l.length ≤ 140737488355328 ∧ ∀ j x, l[j]? = some x → ∃ b off, a = some ⟨b, off, none⟩ ∧ w.cell? ⟨b, off + j * 2, none⟩ = some (.int .i64 x.1) ∧ w.cell? ⟨b, off + j * 2 + 1, none⟩ = some (.string x.2) ∧ x.2.size ≤ maxLen
theorem RdT.below {w w' : World} {v : Value} {l : List (Int × ByteArray)} {N : Nat} (h : RdT w v l) (hb : Below N w w') (hN : w.heap.size ≤ N) : RdT w' v l := by
  obtain ⟨a, c, rfl, h1, h2, h20, h3⟩ := h
  refine ⟨a, c, rfl, h1, h2, h20, fun j s hj => ?_⟩
  obtain ⟨b, off, rfl, hc, hd, he⟩ := h3 j s hj
  exact ⟨b, off, rfl, (hb.cell (Nat.lt_of_lt_of_le (World.block_lt_of_cell? w _ hc) hN)).trans hc, (hb.cell (Nat.lt_of_lt_of_le (World.block_lt_of_cell? w _ hd) hN)).trans hd, he⟩
/-- What 'great' says: when it says no, there are few steps and few names. -/
def GreatIs (w : World) (nm nl : Nat) (e : Ending) (w' : World) : Prop := ∃ g : Bool, e = .returned (.bool g) ∧ (g = false → nl ≤ 300 ∧ nm ≤ 1000) ∧ Below w.heap.size w w'
set_option maxHeartbeats 2000000 in
set_option maxRecDepth 20000 in
theorem great_calls (deep fan : Int) (mv lv : Value) (ms : List ByteArray) (l : List (Int × ByteArray)) (w : World) (hm : RdS w mv ms) (hms : ms.length ≤ 140737488355328) (hl : RdT w lv l) :
    Calls Try.prog 26 #[.agg #[.int .i64 deep, .int .i64 fan, mv], lv] w (GreatIs w ms.length l.length) := by
  have HM := Lib.hid hm
  obtain ⟨a, c, rfl, hlc, hcm, h47, hcell⟩ := hl
  obtain ⟨a2, c2, rfl, hlc2, hcm2, hcell2⟩ := hm
  have HC := Lib.hid hcell
  have HC2 := Lib.hid hcell2
  have hcm' : c ≤ 9223372036854775807 := hcm
  have hcm2' : c2 ≤ 9223372036854775807 := hcm2
  obtain ⟨n1, hn1⟩ : ∃ n, n = ms.length := ⟨_, rfl⟩
  obtain ⟨n2, hn2⟩ : ∃ n, n = l.length := ⟨_, rfl⟩
  have E1 := Lib.hid hn1; have E2 := Lib.hid hn2
  rw [← hn1] at hlc2 hms ⊢
  rw [← hn2] at hlc h47 ⊢
  clear hcell hcell2 hcm hcm2 hn1 hn2
  go_enter Try.func26, Try.ntmps26
  go_wp2
  go_loopw [5, 15] (fun n i wr => ∃ k m : Nat, k ≤ n2 ∧ i = .int .i64 k ∧ n = .int .i64 m ∧ n1 ≤ m ∧ m ≤ n1 + 50 * k ∧ Below w.heap.size w wr ∧ Hid (Blk wr w.heap.size 24 [.int .i64 deep, .int .i64 fan, .slice a2 n1 c2])) (fun _ i _ => n2 - (intOf i).toNat)
  case atStart => exact ⟨0, n1, by omega, rfl, rfl, by omega, by omega, (Below.refl _ _).alloc (Nat.le_refl _) _, Lib.hid (Blk.new w [.int .i64 deep, .int .i64 fan, .slice a2 n1 c2] 24)⟩
  case round =>
    obtain ⟨k, m, hk, rfl, rfl, hm1, hm2, hB, hbl⟩ := hrel
    by_cases hlt : k < n2
    · obtain ⟨b, off, rfl, hx, hy, hz⟩ := HC.out k (l[k]'(by rw [← E2.out]; exact hlt)) (List.getElem?_eq_getElem _)
      have hx' := (hB.cell (World.block_lt_of_cell? w _ hx)).trans hx
      have hy' := (hB.cell (World.block_lt_of_cell? w _ hy)).trans hy
      generalize (l[k]'(by rw [← E2.out]; exact hlt)) = x at *
      have BB := Lib.hid hB
      clear hx hy hB
      go_wp2
      go_roundw
      case rel => exact ⟨k + 1, m + min x.2.size 1000 / 20, by omega, by go_num, by congr 1; omega, by omega, by omega, BB.out.alloc BB.out.size _, Lib.hid (hbl.out.alloc _)⟩
      case measure => simp [intOf]; omega
    · obtain rfl : k = n2 := by omega
      have c2c := hbl.out.cell 2 _ rfl
      go_wp2
      go_loop [5, 30] (fun n i => ∃ q p : Nat, q ≤ n1 ∧ i = .int .i64 q ∧ n = .int .i64 p ∧ n1 ≤ p ∧ p ≤ n1 + 50 * k + 50 * q) (fun _ i => n1 - (intOf i).toNat)
      case atStart => exact ⟨0, m, by omega, rfl, rfl, by omega, by omega⟩
      case round =>
        obtain ⟨q, p, hq, rfl, rfl, hp1, hp2⟩ := hrel
        by_cases hlt2 : q < n1
        · obtain ⟨b, off, rfl, hx⟩ := HC2.out q (ms[q]'(by rw [← E1.out]; exact hlt2)) (List.getElem?_eq_getElem _)
          have hx' := (hB.cell (World.block_lt_of_cell? w _ hx)).trans hx
          generalize (ms[q]'(by rw [← E1.out]; exact hlt2)) = x at *
          clear hx
          go_wp2
          go_round
          case rel => exact ⟨q + 1, p + min x.size 1000 / 20, by omega, by go_num, by congr 1; omega, by omega, by omega⟩
          case measure => simp [intOf]; omega
        · go_wp2
          all_goals
            go_ret
            refine ⟨_, rfl, fun h => ?_, hB⟩
            first | (simp at h; omega) | (simp at h)
theorem drewN_add (w : World) (a b : Nat) : (w.drewN a).drewN b = w.drewN (a + b) := by simp [World.drewN, Nat.add_assoc]
theorem ext_take {la lb : List ByteArray} (h : la.length = lb.length) (hj : ∀ j, j < la.length → la[j]? = lb[j]?) : la = lb := by
  apply List.ext_getElem? 
  intro j
  rcases Nat.lt_or_ge j la.length with h' | h'
  · exact hj j h'
  · rw [List.getElem?_eq_none h', List.getElem?_eq_none (by omega)]
theorem str_ne (a b : ByteArray) (h : a ≠ b) : (a.toList == b.toList) = false := by
  rw [beq_eq_false_iff_ne]
  intro e
  apply h
  have h2 : a.data = b.data := by
    have h3 : a.data.toList = b.data.toList := by simpa [ByteArray.toList_eq] using e
    rw [← Array.toArray_toList (xs := a.data), h3]
  cases a; cases b; simp_all
set_option maxHeartbeats 2000000 in
theorem same_calls (va vb : Value) (la lb : List ByteArray) (w : World) (ha : RdS w va la) (hb : RdS w vb lb) :
    Calls Try.prog 32 #[va, vb] w fun e w' => e = .returned (.bool (decide (la = lb))) ∧ ∃ n, w' = w.drewN n := by
  obtain ⟨a, c, rfl, hlc, hcm, hcell⟩ := ha
  obtain ⟨a2, c2, rfl, hlc2, hcm2, hcell2⟩ := hb
  have HC := Lib.hid hcell
  have HC2 := Lib.hid hcell2
  have hcm' : c ≤ 9223372036854775807 := hcm
  have hcm2' : c2 ≤ 9223372036854775807 := hcm2
  clear hcell hcell2 hcm hcm2
  by_cases hne : la.length = lb.length
  · obtain ⟨n1, hn1⟩ : ∃ n, n = la.length := ⟨_, rfl⟩
    rw [← hne] at hlc2 ⊢
    have HNE := Lib.hid hne
    rw [← hn1] at hlc hlc2 ⊢
    have E1 := Lib.hid hn1
    clear hne hn1
    go_enter Try.func32, Try.ntmps32
    go_wp2
    go_loopw [13] (fun i wr => ∃ k n : Nat, k ≤ n1 ∧ i = .int .i64 k ∧ wr = w.drewN n ∧ Hid (∀ j, j < k → la[j]? = lb[j]?)) (fun i _ => n1 - (intOf i).toNat)
    case atStart => exact ⟨0, 0, by omega, rfl, rfl, Lib.hid (fun j hj => by omega)⟩
    case round =>
      obtain ⟨k, n, hk, rfl, rfl, hall⟩ := hrel
      by_cases hlt : k < n1
      · have hk1 : k < la.length := by rw [← E1.out]; exact hlt
        have hk2 : k < lb.length := by rw [← HNE.out]; exact hk1
        obtain ⟨b, off, rfl, hx⟩ := HC.out k la[k] (List.getElem?_eq_getElem _)
        obtain ⟨b2, off2, rfl, hx2⟩ := HC2.out k lb[k] (List.getElem?_eq_getElem _)
        have hg1 : (0 : Int) ≤ (k : Int) := by omega
        have hg2 : (k : Int) < (n1 : Int) := by omega
        by_cases heq : la[k] = lb[k]
        · have HE : Hid (la[k]? = lb[k]?) := Lib.hid (by rw [List.getElem?_eq_getElem hk1, List.getElem?_eq_getElem hk2, heq])
          rw [← heq] at hx2
          generalize la[k] = x at *
          clear heq hk1 hk2
          go_wp2
          go_quiet (fail)
          go_wp2
          go_roundw
          case rel => 
            refine ⟨k + 1, _, by omega, by go_num, rfl, Lib.hid (fun j hj => ?_)⟩
            by_cases e : j = k
            · subst e; exact HE.out
            · exact hall.out j (by omega)
          case measure => simp [intOf]; omega
        · have hd : decide (la = lb) = false := decide_eq_false (fun e => heq (by simp [e]))
          have hs := str_ne _ _ heq
          have HD := Lib.hid hd
          generalize la[k] = x at *
          generalize lb[k] = y at *
          clear heq hk1 hk2 hd
          go_wp2
          go_quiet (fail)
          go_wp2
          go_ret
          exact ⟨by rw [HD.out]; rfl, _, by first | rfl | exact drewN_add _ _ _⟩
      · obtain rfl : k = n1 := by omega
        have hd : decide (la = lb) = true := decide_eq_true (ext_take HNE.out (by rw [← E1.out]; exact hall.out))
        have HD := Lib.hid hd
        clear hd
        go_wp2
        go_ret
        exact ⟨by rw [HD.out]; rfl, _, by first | rfl | exact drewN_add _ _ _⟩
  · have hd : decide (la = lb) = false := decide_eq_false (fun e => hne (by rw [e]))
    have hne' : ((la.length : Int) == (lb.length : Int)) = false := by simp; omega
    rw [hd]
    generalize la.length = n1 at *
    generalize lb.length = n2 at *
    go_enter Try.func32, Try.ntmps32
    go_wp2
    go_ret
    exact ⟨rfl, 0, rfl⟩
end Go.Proofs.Ytmjfmfelbmbniaa
