/- oper.Event: the name of a metatable's field, by operator. -/
import Derived.Test.YtpgpmldaggpciaaGreatDoorPBlm0
import Derived.Lib.Hide
import Derived.Deep.WholeRow
set_option linter.unusedVariables false
set_option linter.unusedSimpArgs false
namespace Go.Proofs.YtpgpmldaggpciaaGreatDoor.GW
open Go.RowKit Go.Proofs.YtpgpmldaggpciaaGreatDoor.PBl Go.Proofs.YtpgpmldaggpciaaGreatDoorW.PrintWords Go.Proofs.YtpgpmldaggpciaaGreatDoorW.PrintLast Go.Proofs.YtpgpmldaggpciaaGreatDoorW.PrintMore Go.Proofs.YtpgpmldaggpciaaGreatDoor.Maths Go.Proofs.YtpgpmldaggpciaaGreatDoor.TabW
theorem toList_inj {a b : ByteArray} : a.toList = b.toList ↔ a = b := by
  constructor
  · intro h
    rw [ByteArray.toList_eq, ByteArray.toList_eq] at h
    exact WideShapes.bytes_inj h
  · rintro rfl; rfl
def eventS (op : Int) : ByteArray :=
  if op = 1 then ⟨#[95, 95, 97, 100, 100]⟩ else if op = 2 then ⟨#[95, 95, 115, 117, 98]⟩ else if op = 3 then ⟨#[95, 95, 109, 117, 108]⟩ else if op = 4 then ⟨#[95, 95, 105, 100, 105, 118]⟩
  else if op = 5 then ⟨#[95, 95, 109, 111, 100]⟩ else if op = 6 then ⟨#[95, 95, 98, 97, 110, 100]⟩ else if op = 7 then ⟨#[95, 95, 98, 111, 114]⟩ else if op = 8 then ⟨#[95, 95, 98, 120, 111, 114]⟩
  else if op = 9 then ⟨#[95, 95, 115, 104, 108]⟩ else if op = 10 then ⟨#[95, 95, 115, 104, 114]⟩ else if op = 11 then ⟨#[95, 95, 99, 111, 110, 99, 97, 116]⟩
  else if op = 12 ∨ op = 13 then ⟨#[95, 95, 101, 113]⟩ else if op = 14 ∨ op = 16 then ⟨#[95, 95, 108, 116]⟩ else if op = 15 ∨ op = 17 then ⟨#[95, 95, 108, 101]⟩
  else if op = 20 then ⟨#[95, 95, 117, 110, 109]⟩ else if op = 21 then ⟨#[95, 95, 98, 110, 111, 116]⟩ else if op = 23 then ⟨#[95, 95, 108, 101, 110]⟩ else ⟨#[]⟩
def eventF (op : Int) : Option ByteArray := some (eventS op)
theorem bel1 {w w1 : World} (h : Below w.heap.size w w1) (o : Obj) : Below w.heap.size w (w1.alloc o) := h.alloc h.size o
def evS (o : Int) : ByteArray :=
  if o = 1 then ⟨#[95, 95, 97, 100, 100]⟩ else if o = 2 then ⟨#[95, 95, 115, 117, 98]⟩ else if o = 3 then ⟨#[95, 95, 109, 117, 108]⟩ else if o = 4 then ⟨#[95, 95, 105, 100, 105, 118]⟩
  else if o = 5 then ⟨#[95, 95, 109, 111, 100]⟩ else if o = 6 then ⟨#[95, 95, 98, 97, 110, 100]⟩ else if o = 7 then ⟨#[95, 95, 98, 111, 114]⟩ else if o = 8 then ⟨#[95, 95, 98, 120, 111, 114]⟩
  else if o = 9 then ⟨#[95, 95, 115, 104, 108]⟩ else if o = 10 then ⟨#[95, 95, 115, 104, 114]⟩ else if o = 11 then ⟨#[95, 95, 99, 111, 110, 99, 97, 116]⟩
  else if o = 12 then ⟨#[95, 95, 101, 113]⟩ else if o = 14 then ⟨#[95, 95, 108, 116]⟩ else if o = 15 then ⟨#[95, 95, 108, 101]⟩
  else if o = 20 then ⟨#[95, 95, 117, 110, 109]⟩ else if o = 21 then ⟨#[95, 95, 98, 110, 111, 116]⟩ else if o = 23 then ⟨#[95, 95, 108, 101, 110]⟩ else ⟨#[]⟩
def nms : List ByteArray := [(⟨#[]⟩ : ByteArray), (⟨#[97, 100, 100]⟩ : ByteArray), (⟨#[115, 117, 98]⟩ : ByteArray), (⟨#[109, 117, 108]⟩ : ByteArray), (⟨#[105, 100, 105, 118]⟩ : ByteArray), (⟨#[109, 111, 100]⟩ : ByteArray), (⟨#[98, 97, 110, 100]⟩ : ByteArray), (⟨#[98, 111, 114]⟩ : ByteArray), (⟨#[98, 120, 111, 114]⟩ : ByteArray), (⟨#[115, 104, 108]⟩ : ByteArray), (⟨#[115, 104, 114]⟩ : ByteArray), (⟨#[99, 111, 110, 99, 97, 116]⟩ : ByteArray), (⟨#[101, 113]⟩ : ByteArray), (⟨#[]⟩ : ByteArray), (⟨#[108, 116]⟩ : ByteArray), (⟨#[108, 101]⟩ : ByteArray), (⟨#[]⟩ : ByteArray), (⟨#[]⟩ : ByteArray), (⟨#[]⟩ : ByteArray), (⟨#[]⟩ : ByteArray), (⟨#[117, 110, 109]⟩ : ByteArray), (⟨#[98, 110, 111, 116]⟩ : ByteArray), (⟨#[]⟩ : ByteArray), (⟨#[108, 101, 110]⟩ : ByteArray)]
def nm (j : Nat) : ByteArray := nms.getD j ⟨#[]⟩
theorem nm_cell (w : World) (j : Nat) (hj : j < 24) (t : TypeId) : (w.alloc (.cells #[.string ⟨#[]⟩, .string ⟨#[97, 100, 100]⟩, .string ⟨#[115, 117, 98]⟩, .string ⟨#[109, 117, 108]⟩, .string ⟨#[105, 100, 105, 118]⟩, .string ⟨#[109, 111, 100]⟩, .string ⟨#[98, 97, 110, 100]⟩, .string ⟨#[98, 111, 114]⟩, .string ⟨#[98, 120, 111, 114]⟩, .string ⟨#[115, 104, 108]⟩, .string ⟨#[115, 104, 114]⟩, .string ⟨#[99, 111, 110, 99, 97, 116]⟩, .string ⟨#[101, 113]⟩, .string ⟨#[]⟩, .string ⟨#[108, 116]⟩, .string ⟨#[108, 101]⟩, .string ⟨#[]⟩, .string ⟨#[]⟩, .string ⟨#[]⟩, .string ⟨#[]⟩, .string ⟨#[117, 110, 109]⟩, .string ⟨#[98, 110, 111, 116]⟩, .string ⟨#[]⟩, .string ⟨#[108, 101, 110]⟩] t)).cell? ⟨w.heap.size, j, none⟩ = some (.string (nm j)) := by
  have e : (w.alloc (.cells #[.string ⟨#[]⟩, .string ⟨#[97, 100, 100]⟩, .string ⟨#[115, 117, 98]⟩, .string ⟨#[109, 117, 108]⟩, .string ⟨#[105, 100, 105, 118]⟩, .string ⟨#[109, 111, 100]⟩, .string ⟨#[98, 97, 110, 100]⟩, .string ⟨#[98, 111, 114]⟩, .string ⟨#[98, 120, 111, 114]⟩, .string ⟨#[115, 104, 108]⟩, .string ⟨#[115, 104, 114]⟩, .string ⟨#[99, 111, 110, 99, 97, 116]⟩, .string ⟨#[101, 113]⟩, .string ⟨#[]⟩, .string ⟨#[108, 116]⟩, .string ⟨#[108, 101]⟩, .string ⟨#[]⟩, .string ⟨#[]⟩, .string ⟨#[]⟩, .string ⟨#[]⟩, .string ⟨#[117, 110, 109]⟩, .string ⟨#[98, 110, 111, 116]⟩, .string ⟨#[]⟩, .string ⟨#[108, 101, 110]⟩] t)).cell? ⟨w.heap.size, j, none⟩ = (#[.string ⟨#[]⟩, .string ⟨#[97, 100, 100]⟩, .string ⟨#[115, 117, 98]⟩, .string ⟨#[109, 117, 108]⟩, .string ⟨#[105, 100, 105, 118]⟩, .string ⟨#[109, 111, 100]⟩, .string ⟨#[98, 97, 110, 100]⟩, .string ⟨#[98, 111, 114]⟩, .string ⟨#[98, 120, 111, 114]⟩, .string ⟨#[115, 104, 108]⟩, .string ⟨#[115, 104, 114]⟩, .string ⟨#[99, 111, 110, 99, 97, 116]⟩, .string ⟨#[101, 113]⟩, .string ⟨#[]⟩, .string ⟨#[108, 116]⟩, .string ⟨#[108, 101]⟩, .string ⟨#[]⟩, .string ⟨#[]⟩, .string ⟨#[]⟩, .string ⟨#[]⟩, .string ⟨#[117, 110, 109]⟩, .string ⟨#[98, 110, 111, 116]⟩, .string ⟨#[]⟩, .string ⟨#[108, 101, 110]⟩] : Array Value)[j]? := World.cell?_alloc_at _ _ _ _ rfl
  rw [e]
  have h : ((#[.string ⟨#[]⟩, .string ⟨#[97, 100, 100]⟩, .string ⟨#[115, 117, 98]⟩, .string ⟨#[109, 117, 108]⟩, .string ⟨#[105, 100, 105, 118]⟩, .string ⟨#[109, 111, 100]⟩, .string ⟨#[98, 97, 110, 100]⟩, .string ⟨#[98, 111, 114]⟩, .string ⟨#[98, 120, 111, 114]⟩, .string ⟨#[115, 104, 108]⟩, .string ⟨#[115, 104, 114]⟩, .string ⟨#[99, 111, 110, 99, 97, 116]⟩, .string ⟨#[101, 113]⟩, .string ⟨#[]⟩, .string ⟨#[108, 116]⟩, .string ⟨#[108, 101]⟩, .string ⟨#[]⟩, .string ⟨#[]⟩, .string ⟨#[]⟩, .string ⟨#[]⟩, .string ⟨#[117, 110, 109]⟩, .string ⟨#[98, 110, 111, 116]⟩, .string ⟨#[]⟩, .string ⟨#[108, 101, 110]⟩] : Array Value).toList)[j]? = (nms.map Value.string)[j]? := rfl
  rw [← Array.getElem?_toList, h, List.getElem?_map]
  unfold nm
  rw [List.getD_eq_getElem?_getD, List.getElem?_eq_getElem (show j < nms.length from hj)]; rfl
theorem nm_ev (j : Nat) (hj : j < 24) : evS (j : Nat) = if nm j = ⟨#[]⟩ then ⟨#[]⟩ else (⟨#[95, 95]⟩ : ByteArray) ++ nm j := by
  have h : ∀ j, j < 24 → evS (j : Nat) = if nm j = ⟨#[]⟩ then ⟨#[]⟩ else (⟨#[95, 95]⟩ : ByteArray) ++ nm j := by decide +kernel
  exact h j hj
theorem nm_size (j : Nat) (hj : j < 24) : (nm j).size ≤ 6 := by
  have h : ∀ j, j < 24 → (nm j).size ≤ 6 := by decide +kernel
  exact h j hj
theorem bd (W : World) : (Instr.build 45 #[(1, .string ⟨#[97, 100, 100]⟩), (2, .string ⟨#[115, 117, 98]⟩), (3, .string ⟨#[109, 117, 108]⟩), (4, .string ⟨#[105, 100, 105, 118]⟩), (5, .string ⟨#[109, 111, 100]⟩), (6, .string ⟨#[98, 97, 110, 100]⟩), (7, .string ⟨#[98, 111, 114]⟩), (8, .string ⟨#[98, 120, 111, 114]⟩), (9, .string ⟨#[115, 104, 108]⟩), (10, .string ⟨#[115, 104, 114]⟩), (11, .string ⟨#[99, 111, 110, 99, 97, 116]⟩), (12, .string ⟨#[101, 113]⟩), (14, .string ⟨#[108, 116]⟩), (15, .string ⟨#[108, 101]⟩), (20, .string ⟨#[117, 110, 109]⟩), (21, .string ⟨#[98, 110, 111, 116]⟩), (23, .string ⟨#[108, 101, 110]⟩)]).run Tryz.prog W = .ok (.agg #[.string ⟨#[]⟩, .string ⟨#[97, 100, 100]⟩, .string ⟨#[115, 117, 98]⟩, .string ⟨#[109, 117, 108]⟩, .string ⟨#[105, 100, 105, 118]⟩, .string ⟨#[109, 111, 100]⟩, .string ⟨#[98, 97, 110, 100]⟩, .string ⟨#[98, 111, 114]⟩, .string ⟨#[98, 120, 111, 114]⟩, .string ⟨#[115, 104, 108]⟩, .string ⟨#[115, 104, 114]⟩, .string ⟨#[99, 111, 110, 99, 97, 116]⟩, .string ⟨#[101, 113]⟩, .string ⟨#[]⟩, .string ⟨#[108, 116]⟩, .string ⟨#[108, 101]⟩, .string ⟨#[]⟩, .string ⟨#[]⟩, .string ⟨#[]⟩, .string ⟨#[]⟩, .string ⟨#[117, 110, 109]⟩, .string ⟨#[98, 110, 111, 116]⟩, .string ⟨#[]⟩, .string ⟨#[108, 101, 110]⟩]) W := run_build W 45 #[(1, .string ⟨#[97, 100, 100]⟩), (2, .string ⟨#[115, 117, 98]⟩), (3, .string ⟨#[109, 117, 108]⟩), (4, .string ⟨#[105, 100, 105, 118]⟩), (5, .string ⟨#[109, 111, 100]⟩), (6, .string ⟨#[98, 97, 110, 100]⟩), (7, .string ⟨#[98, 111, 114]⟩), (8, .string ⟨#[98, 120, 111, 114]⟩), (9, .string ⟨#[115, 104, 108]⟩), (10, .string ⟨#[115, 104, 114]⟩), (11, .string ⟨#[99, 111, 110, 99, 97, 116]⟩), (12, .string ⟨#[101, 113]⟩), (14, .string ⟨#[108, 116]⟩), (15, .string ⟨#[108, 101]⟩), (20, .string ⟨#[117, 110, 109]⟩), (21, .string ⟨#[98, 110, 111, 116]⟩), (23, .string ⟨#[108, 101, 110]⟩)] #[.string ⟨#[]⟩, .string ⟨#[97, 100, 100]⟩, .string ⟨#[115, 117, 98]⟩, .string ⟨#[109, 117, 108]⟩, .string ⟨#[105, 100, 105, 118]⟩, .string ⟨#[109, 111, 100]⟩, .string ⟨#[98, 97, 110, 100]⟩, .string ⟨#[98, 111, 114]⟩, .string ⟨#[98, 120, 111, 114]⟩, .string ⟨#[115, 104, 108]⟩, .string ⟨#[115, 104, 114]⟩, .string ⟨#[99, 111, 110, 99, 97, 116]⟩, .string ⟨#[101, 113]⟩, .string ⟨#[]⟩, .string ⟨#[108, 116]⟩, .string ⟨#[108, 101]⟩, .string ⟨#[]⟩, .string ⟨#[]⟩, .string ⟨#[]⟩, .string ⟨#[]⟩, .string ⟨#[117, 110, 109]⟩, .string ⟨#[98, 110, 111, 116]⟩, .string ⟨#[]⟩, .string ⟨#[108, 101, 110]⟩] (by kernel_rfl)
attribute [local go_sem ↓] bd
set_option maxHeartbeats 8000000 in
theorem event_core (op o : Int) (a b : Bool) (w : World) (hs : oper_Swap.f op = some (o, a, b)) : Calls Tryz.prog 9 #[.int .i64 op] w fun e w' => e = .returned (.string (evS o)) ∧ Below w.heap.size w w' := by
  have HS := Lib.hid (fun W => oper_Swap.calls op o a b W hs)
  obtain ⟨r, hr⟩ : ∃ r, evS o = r := ⟨_, rfl⟩
  have HE : Hid ((o < 0 ∨ o ≥ 24) → r = ⟨#[]⟩) := Lib.hid (by
    intro h
    rw [← hr]
    unfold evS
    repeat (first | rw [if_neg (by omega)]))
  have HN : Hid (∀ j : Nat, j < 24 → o = (j : Int) → r = if nm j = ⟨#[]⟩ then ⟨#[]⟩ else (⟨#[95, 95]⟩ : ByteArray) ++ nm j) := Lib.hid (fun j hj he => by rw [← hr, he]; exact nm_ev j hj)
  rw [hr]
  clear hs hr
  go_enter Tryz.func9, Tryz.ntmps9
  go_upto_region 2 with (go_at_call 7; refine (HS.out _).mono ?_; rintro e w1 ⟨rfl, hd⟩; have HB := Lib.hid hd.below; clear hd)
  go_step
  go_step
  go_step
  go_step
  go_step
  go_step
  go_step
  refine wpList_store_row rfl 45 (.tmp 6) (.tmp 13) rfl w1.heap.size _ rfl rfl 45 _ (heap_alloc_last w1 _) (by kernel_rfl) rfl (by kernel_rfl) ?_
  rw [World.setRow_alloc_new]
  have HC := Lib.hid (fun j (hj : j < 24) => nm_cell w1 j hj 45)
  have HB2 := Lib.hid (bel1 HB.out (.cells #[.string ⟨#[]⟩, .string ⟨#[97, 100, 100]⟩, .string ⟨#[115, 117, 98]⟩, .string ⟨#[109, 117, 108]⟩, .string ⟨#[105, 100, 105, 118]⟩, .string ⟨#[109, 111, 100]⟩, .string ⟨#[98, 97, 110, 100]⟩, .string ⟨#[98, 111, 114]⟩, .string ⟨#[98, 120, 111, 114]⟩, .string ⟨#[115, 104, 108]⟩, .string ⟨#[115, 104, 114]⟩, .string ⟨#[99, 111, 110, 99, 97, 116]⟩, .string ⟨#[101, 113]⟩, .string ⟨#[]⟩, .string ⟨#[108, 116]⟩, .string ⟨#[108, 101]⟩, .string ⟨#[]⟩, .string ⟨#[]⟩, .string ⟨#[]⟩, .string ⟨#[]⟩, .string ⟨#[117, 110, 109]⟩, .string ⟨#[98, 110, 111, 116]⟩, .string ⟨#[]⟩, .string ⟨#[108, 101, 110]⟩] 45))
  generalize hw2 : w1.alloc (.cells #[.string ⟨#[]⟩, .string ⟨#[97, 100, 100]⟩, .string ⟨#[115, 117, 98]⟩, .string ⟨#[109, 117, 108]⟩, .string ⟨#[105, 100, 105, 118]⟩, .string ⟨#[109, 111, 100]⟩, .string ⟨#[98, 97, 110, 100]⟩, .string ⟨#[98, 111, 114]⟩, .string ⟨#[98, 120, 111, 114]⟩, .string ⟨#[115, 104, 108]⟩, .string ⟨#[115, 104, 114]⟩, .string ⟨#[99, 111, 110, 99, 97, 116]⟩, .string ⟨#[101, 113]⟩, .string ⟨#[]⟩, .string ⟨#[108, 116]⟩, .string ⟨#[108, 101]⟩, .string ⟨#[]⟩, .string ⟨#[]⟩, .string ⟨#[]⟩, .string ⟨#[]⟩, .string ⟨#[117, 110, 109]⟩, .string ⟨#[98, 110, 111, 116]⟩, .string ⟨#[]⟩, .string ⟨#[108, 101, 110]⟩] 45) = w2 at *
  by_cases h0 : o < 0
  · have hr := HE.out (Or.inl h0)
    subst hr
    have hb : decide (o < 0) = true := decide_eq_true h0
    clear h0 HC hw2
    go_wp2_with fail
    go_ret
    exact ⟨rfl, HB2.out⟩
  · by_cases h24 : o ≥ 24
    · have hr := HE.out (Or.inr h24)
      subst hr
      have hb : decide (o < 0) = false := decide_eq_false h0
      have hc : decide (24 ≤ o) = true := decide_eq_true h24
      clear h0 h24 HC hw2
      go_wp2_with fail
      go_ret
      exact ⟨rfl, HB2.out⟩
    · obtain ⟨j, rfl⟩ := Int.eq_ofNat_of_zero_le (show 0 ≤ o by omega)
      have hj : j < 24 := by omega
      have hr := HN.out j hj rfl
      have hz := nm_size j hj
      have hc0 := HC.out j hj
      have h1 : decide ((j : Int) < 0) = false := decide_eq_false h0
      have h2 : decide ((24 : Int) ≤ (j : Int)) = false := decide_eq_false h24
      have hj0 : (0 : Int) ≤ (j : Int) := by omega
      have hj1 : (j : Int) < 24 := by omega
      generalize nm j = s at *
      clear h0 h24 HC hw2 HE HN
      by_cases hs : s = ⟨#[]⟩
      · rw [if_pos hs] at hr
        subst hr hs
        clear hz
        go_wp2_with fail
        go_ret
        exact ⟨rfl, HB2.out⟩
      · rw [if_neg hs] at hr
        subst hr
        have hne : (s.toList == ([] : List UInt8)) = false := by
          rw [beq_eq_false_iff_ne]; intro e; exact hs (toList_inj.1 (e.trans (show ([] : List UInt8) = (⟨#[]⟩ : ByteArray).toList by decide +kernel)))
        have hsz : (9223372036854775807 < 2 + s.size) = False := eq_false (by omega)
        clear hs
        go_wp2_with fail
        go_ret
        exact ⟨rfl, HB2.out⟩
theorem event_calls (op : Int) (r : ByteArray) (w : World) (h : eventF op = some r) : Calls Tryz.prog 9 #[.int .i64 op] w fun e w' => e = .returned (.string r) ∧ Below w.heap.size w w' := by
  obtain rfl := Option.some.inj h
  clear h
  by_cases h16 : op = 16
  · subst h16; exact event_core 16 14 true false w rfl
  by_cases h17 : op = 17
  · subst h17; exact event_core 17 15 true false w rfl
  by_cases h13 : op = 13
  · subst h13; exact event_core 13 12 false true w rfl
  have hs : oper_Swap.f op = some (op, false, false) := by unfold oper_Swap.f; rw [if_neg h16, if_neg h17, if_neg h13]
  have he : eventS op = evS op := by unfold eventS evS; simp only [h16, h17, h13, or_false]
  rw [he]
  exact event_core op op false false w hs
end Go.Proofs.YtpgpmldaggpciaaGreatDoor.GW
