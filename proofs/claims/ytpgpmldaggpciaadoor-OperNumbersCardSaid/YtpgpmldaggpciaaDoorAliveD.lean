/- The document's examples of layer 11: the calls of oper.Do and oper.Blame that they make, as given calls. -/
import Derived.Test.YtpgpmldaggpciaaDoorAliveC
import Derived.Test.YtpgpmldaggpciaaDoorOperT
import Derived.Test.YtpgpmldaggpciaaDoorPCmx
set_option linter.unusedVariables false
set_option linter.unusedSimpArgs false
namespace Go.Proofs.YtpgpmldaggpciaaDoor.GW
open Go.RowKit Go.Proofs.YtpgpmldaggpciaaDoorW.PrintWords Go.Proofs.YtpgpmldaggpciaaDoorW.PrintLast Go.Proofs.YtpgpmldaggpciaaDoorW.PrintMore Go.Proofs.YtpgpmldaggpciaaDoor.Maths Go.Proofs.YtpgpmldaggpciaaDoor.TabW Go.Proofs.YtpgpmldaggpciaaDoor.HK
def isA (k n : Int) (s : ByteArray) (k2 n2 : Int) (s2 : ByteArray) : Prop := k = 2 ∧ n = 1 ∧ s = ⟨#[]⟩ ∧ k2 = 3 ∧ n2 = 0 ∧ s2 = ⟨#[97]⟩
instance (k n : Int) (s : ByteArray) (k2 n2 : Int) (s2 : ByteArray) : Decidable (isA k n s k2 n2 s2) := by unfold isA; exact inferInstance
def doAF (op k n : Int) (s : ByteArray) (k2 n2 : Int) (s2 : ByteArray) (most : Int) : Option R4 :=
  if most = 9 ∧ op = 1 ∧ k = 3 ∧ n = 0 ∧ s = ⟨#[49, 48]⟩ ∧ k2 = 2 ∧ n2 = 1 ∧ s2 = ⟨#[]⟩ then some (2, 11, ⟨#[]⟩, 0)
  else if most = 9 ∧ op = 11 ∧ isA k n s k2 n2 s2 then some (3, 0, ⟨#[49, 97]⟩, 0)
  else if most = 9 ∧ op = 14 ∧ isA k n s k2 n2 s2 then some (0, 0, ⟨#[]⟩, 18) else none
theorem doA_calls (op k n : Int) (s : ByteArray) (k2 n2 : Int) (s2 : ByteArray) (most : Int) (r1 r2 : Int) (r3 : ByteArray) (r4 : Int) (w : World) (hT : Tab w) (h : doAF op k n s k2 n2 s2 most = some (r1, r2, r3, r4)) :
    Calls Tryd.prog 46 #[.int .i64 op, .agg #[.int .i64 k, .int .i64 n, .string s], .agg #[.int .i64 k2, .int .i64 n2, .string s2], .int .i64 most] w fun e w' => e = .returned (.tuple #[.agg #[.int .i64 r1, .int .i64 r2, .string r3], .int .i64 r4]) ∧ Below w.heap.size w w' := by
  unfold doAF at h
  split at h
  · rename_i hc; obtain ⟨rfl, rfl, rfl, rfl, rfl, rfl, rfl, rfl⟩ := hc; cases h; exact cDo1 w hT
  · split at h
    · rename_i hc; obtain ⟨rfl, rfl, rfl, rfl, rfl, rfl, rfl, rfl⟩ := hc; cases h; exact cDo11 w hT
    · split at h
      · rename_i hc; obtain ⟨rfl, rfl, rfl, rfl, rfl, rfl, rfl, rfl⟩ := hc; cases h; exact cDo14 w
      · cases h
theorem cCmp (w : World) : Calls Tryd.prog 28 #[.agg #[.int .i64 2, .int .i64 1, .string ⟨#[]⟩], .agg #[.int .i64 3, .int .i64 0, .string ⟨#[97]⟩]] w fun e w' =>
    e = .returned (.string ⟨#[97, 116, 116, 101, 109, 112, 116, 32, 116, 111, 32, 99, 111, 109, 112, 97, 114, 101, 32, 110, 117, 109, 98, 101, 114, 32, 119, 105, 116, 104, 32, 115, 116, 114, 105, 110, 103]⟩) ∧ Below w.heap.size w w' :=
  PCm.words_Compare.calls 2 1 ⟨#[]⟩ 3 0 ⟨#[97]⟩ _ w (by decide +kernel)
theorem cBlame (w : World) : Calls Tryd.prog 51 #[.int .i64 14, .agg #[.int .i64 2, .int .i64 1, .string ⟨#[]⟩], .agg #[.int .i64 3, .int .i64 0, .string ⟨#[97]⟩]] w fun e w' =>
    e = .returned (.string ⟨#[97, 116, 116, 101, 109, 112, 116, 32, 116, 111, 32, 99, 111, 109, 112, 97, 114, 101, 32, 110, 117, 109, 98, 101, 114, 32, 119, 105, 116, 104, 32, 115, 116, 114, 105, 110, 103]⟩) ∧ Below w.heap.size w w' := by
  have HB := Lib.hid (cBel2 w (.cells #[.int .i64 2, .int .i64 1, .string ⟨#[]⟩] 32) (.cells #[.int .i64 3, .int .i64 0, .string ⟨#[97]⟩] 32))
  go_enter Tryd.func51, Tryd.ntmps51
  go_wp2_with (go_at_call 28; (with_reducible refine (cCmp _).mono ?_); rintro e w1 ⟨rfl, hb⟩; have HB1 := Lib.hid (HB.out.trans (hb.mono HB.out.size)); clear hb)
  go_ret
  exact ⟨rfl, HB1.out⟩
def blameAF (op k n : Int) (s : ByteArray) (k2 n2 : Int) (s2 : ByteArray) : Option ByteArray :=
  if op = 14 ∧ isA k n s k2 n2 s2 then some ⟨#[97, 116, 116, 101, 109, 112, 116, 32, 116, 111, 32, 99, 111, 109, 112, 97, 114, 101, 32, 110, 117, 109, 98, 101, 114, 32, 119, 105, 116, 104, 32, 115, 116, 114, 105, 110, 103]⟩ else none
theorem blameA_calls (op k n : Int) (s : ByteArray) (k2 n2 : Int) (s2 : ByteArray) (r : ByteArray) (w : World) (h : blameAF op k n s k2 n2 s2 = some r) :
    Calls Tryd.prog 51 #[.int .i64 op, .agg #[.int .i64 k, .int .i64 n, .string s], .agg #[.int .i64 k2, .int .i64 n2, .string s2]] w fun e w' => e = .returned (.string r) ∧ Below w.heap.size w w' := by
  unfold blameAF at h
  split at h
  · rename_i hc; obtain ⟨rfl, rfl, rfl, rfl, rfl, rfl, rfl⟩ := hc; cases h; exact cBlame w
  · cases h
def truthAF (k n : Int) (s : ByteArray) : Option Bool := if k = 2 ∧ n = 0 ∧ s = ⟨#[]⟩ then some true else none
theorem truthA_calls (k n : Int) (s : ByteArray) (r : Bool) (w : World) (h : truthAF k n s = some r) :
    Calls Tryd.prog 47 #[.agg #[.int .i64 k, .int .i64 n, .string s]] w fun e w' => e = .returned (.bool r) ∧ Below w.heap.size w w' := by
  unfold truthAF at h
  split at h
  · rename_i hc; obtain ⟨rfl, rfl, rfl⟩ := hc; cases h; exact cTruth w
  · cases h
def ofintF (n : Int) : Option (Int × Int × ByteArray) := some (2, n, ⟨#[]⟩)
def ofstrF (s : ByteArray) : Option (Int × Int × ByteArray) := some (3, 0, s)
theorem ofint_calls (n r1 r2 : Int) (r3 : ByteArray) (w : World) (h : ofintF n = some (r1, r2, r3)) : Calls Tryd.prog 53 #[.int .i64 n] w fun e w' => e = .returned (.agg #[.int .i64 r1, .int .i64 r2, .string r3]) ∧ Below w.heap.size w w' := by
  cases h; exact cInt n w
theorem ofstr_calls (s : ByteArray) (r1 r2 : Int) (r3 : ByteArray) (w : World) (h : ofstrF s = some (r1, r2, r3)) : Calls Tryd.prog 55 #[.string s] w fun e w' => e = .returned (.agg #[.int .i64 r1, .int .i64 r2, .string r3]) ∧ Below w.heap.size w w' := by
  cases h; exact cStr s w
end Go.Proofs.YtpgpmldaggpciaaDoor.GW
