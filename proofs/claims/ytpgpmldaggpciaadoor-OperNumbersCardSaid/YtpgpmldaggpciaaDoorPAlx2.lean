-- printed by a call of the kit's print.py over several functions of this seat (wip/pr.sh)
import Derived.Test.YtpgpmldaggpciaaDoorPAlx0
import Derived.Test.YtpgpmldaggpciaaDoorPAlx1
namespace Go.Proofs.YtpgpmldaggpciaaDoor.PAl
open Go.RowKit Go.Proofs.YtpgpmldaggpciaaDoorW.PrintWords Go.Proofs.YtpgpmldaggpciaaDoorW.PrintLast Go.Proofs.YtpgpmldaggpciaaDoorW.PrintMore
attribute [local go_sem] max2_int min2_int max_two min_two max_three min_three max_four min_four   -- for this text's walks alone
set_option linter.unusedVariables false
set_option linter.unusedSimpArgs false

attribute [local go_sem high] eqA32
/-! ### oper_Do: function 46 -/
def oper_Do.f (a0 : Int) (a1_0 : Int) (a1_1 : Int) (a1_2 : ByteArray) (a2_0 : Int) (a2_1 : Int) (a2_2 : ByteArray) (a3 : Int) : Option (Int × Int × ByteArray × Int) := GW.doAF a0 a1_0 a1_1 a1_2 a2_0 a2_1 a2_2 a3
theorem oper_Do.calls (a0 : Int) (a1_0 : Int) (a1_1 : Int) (a1_2 : ByteArray) (a2_0 : Int) (a2_1 : Int) (a2_2 : ByteArray) (a3 : Int) (r1 : Int) (r2 : Int) (r3 : ByteArray) (r4 : Int) (w : World) (hT : TabW.Tab w) (h : oper_Do.f a0 a1_0 a1_1 a1_2 a2_0 a2_1 a2_2 a3 = some (r1, r2, r3, r4)) :
    Calls Tryd.prog 46 #[.int .i64 a0, .agg #[.int .i64 a1_0, .int .i64 a1_1, .string a1_2], .agg #[.int .i64 a2_0, .int .i64 a2_1, .string a2_2], .int .i64 a3] w fun e w' => e = .returned (.tuple #[.agg #[.int .i64 r1, .int .i64 r2, .string r3], .int .i64 r4]) ∧ Below w.heap.size w w' := GW.doA_calls a0 a1_0 a1_1 a1_2 a2_0 a2_1 a2_2 a3 r1 r2 r3 r4 w hT h

/-! ### value_Truth: function 47 -/
def value_Truth.f (a0_0 : Int) (a0_1 : Int) (a0_2 : ByteArray) : Option (Bool) := GW.truthAF a0_0 a0_1 a0_2
theorem value_Truth.calls (a0_0 : Int) (a0_1 : Int) (a0_2 : ByteArray) (r : Bool) (w : World) (h : value_Truth.f a0_0 a0_1 a0_2 = some r) :
    Calls Tryd.prog 47 #[.agg #[.int .i64 a0_0, .int .i64 a0_1, .string a0_2]] w fun e w' => e = .returned (.bool r) ∧ Below w.heap.size w w' := GW.truthA_calls a0_0 a0_1 a0_2 r w h

/-! ### oper_Blame: function 51 -/
def oper_Blame.f (a0 : Int) (a1_0 : Int) (a1_1 : Int) (a1_2 : ByteArray) (a2_0 : Int) (a2_1 : Int) (a2_2 : ByteArray) : Option (ByteArray) := GW.blameAF a0 a1_0 a1_1 a1_2 a2_0 a2_1 a2_2
theorem oper_Blame.calls (a0 : Int) (a1_0 : Int) (a1_1 : Int) (a1_2 : ByteArray) (a2_0 : Int) (a2_1 : Int) (a2_2 : ByteArray) (r : ByteArray) (w : World) (h : oper_Blame.f a0 a1_0 a1_1 a1_2 a2_0 a2_1 a2_2 = some r) :
    Calls Tryd.prog 51 #[.int .i64 a0, .agg #[.int .i64 a1_0, .int .i64 a1_1, .string a1_2], .agg #[.int .i64 a2_0, .int .i64 a2_1, .string a2_2]] w fun e w' => e = .returned (.string r) ∧ Below w.heap.size w w' := GW.blameA_calls a0 a1_0 a1_1 a1_2 a2_0 a2_1 a2_2 r w h

/-! ### value_OfInt: function 53 -/
def value_OfInt.f (a0 : Int) : Option (Int × Int × ByteArray) := GW.ofintF a0
theorem value_OfInt.calls (a0 : Int) (r1 : Int) (r2 : Int) (r3 : ByteArray) (w : World) (h : value_OfInt.f a0 = some (r1, r2, r3)) :
    Calls Tryd.prog 53 #[.int .i64 a0] w fun e w' => e = .returned (.agg #[.int .i64 r1, .int .i64 r2, .string r3]) ∧ Below w.heap.size w w' := GW.ofint_calls a0 r1 r2 r3 w h

/-! ### value_OfStr: function 55 -/
def value_OfStr.f (a0 : ByteArray) : Option (Int × Int × ByteArray) := GW.ofstrF a0
theorem value_OfStr.calls (a0 : ByteArray) (r1 : Int) (r2 : Int) (r3 : ByteArray) (w : World) (h : value_OfStr.f a0 = some (r1, r2, r3)) :
    Calls Tryd.prog 55 #[.string a0] w fun e w' => e = .returned (.agg #[.int .i64 r1, .int .i64 r2, .string r3]) ∧ Below w.heap.size w w' := GW.ofstr_calls a0 r1 r2 r3 w h

/-! ### selkielaw11_alive: function 43 -/
def selkielaw11_alive.f  : Option (Bool) := (value_OfStr.f (⟨#[49, 48]⟩ : ByteArray)).bind fun bt101 => ((value_OfInt.f 1).bind fun bt104 => ((oper_Do.f 1 bt101.1 bt101.2.1 bt101.2.2 bt104.1 bt104.2.1 bt104.2.2 9).bind fun bt107 => ((value_OfInt.f 1).bind fun bt112 => ((value_OfStr.f (⟨#[97]⟩ : ByteArray)).bind fun bt115 => ((oper_Do.f 11 bt112.1 bt112.2.1 bt112.2.2 bt115.1 bt115.2.1 bt115.2.2 9).bind fun bt118 => ((value_OfInt.f 1).bind fun bt123 => ((value_OfStr.f (⟨#[97]⟩ : ByteArray)).bind fun bt126 => ((oper_Do.f 14 bt123.1 bt123.2.1 bt123.2.2 bt126.1 bt126.2.1 bt126.2.2 9).bind fun bt129 => ((value_OfInt.f 11).bind fun bt134 => (if (bt107.1 == bt134.1 && (bt107.2.1 == bt134.2.1 && (bt107.2.2.1.toList == bt134.2.2.toList))) = true then (if bt107.2.2.2 = 0 then ((value_OfStr.f (⟨#[49, 97]⟩ : ByteArray)).bind fun bt137 => (if (bt118.1 == bt137.1 && (bt118.2.1 == bt137.2.1 && (bt118.2.2.1.toList == bt137.2.2.toList))) = true then (if bt118.2.2.2 = 0 then (if bt129.2.2.2 = 18 then ((value_OfInt.f 1).bind fun bt140 => ((value_OfStr.f (⟨#[97]⟩ : ByteArray)).bind fun bt143 => ((oper_Blame.f 14 bt140.1 bt140.2.1 bt140.2.2 bt143.1 bt143.2.1 bt143.2.2).bind fun t146 => (if t146.toList = ([97, 116, 116, 101, 109, 112, 116, 32, 116, 111, 32, 99, 111, 109, 112, 97, 114, 101, 32, 110, 117, 109, 98, 101, 114, 32, 119, 105, 116, 104, 32, 115, 116, 114, 105, 110, 103] : List UInt8) then ((value_OfInt.f 0).bind fun bt147 => ((value_Truth.f bt147.1 bt147.2.1 bt147.2.2).bind fun t150 => (some t150))) else (some false))))) else (some false)) else (some false)) else (some false))) else (some false)) else (some false)))))))))))
def selkielaw11_alive.T4 : Bool × List (List Nat × List Nat) := (true, [([], []), ([], []), ([0, 1], [0, 1]), ([2, 1], [2]), ([3], [3]), ([4, 3], [3, 4]), ([3, 5], [3, 5]), ([6, 3], [6]), ([7], [7]), ([7, 7], [7]), ([8, 9, 7], [7, 8, 9]), ([7, 10], [7, 10]), ([11, 9], [11]), ([12], [12]), ([13, 12], [12, 13]), ([12, 14], [12, 14]), ([15, 12], [15]), ([16], [16]), ([17, 16], [16, 17]), ([16, 18], [16, 18]), ([19, 16], [19]), ([20, 20], [20]), ([21, 20], [20]), ([21, 22, 22, 20], [20, 21, 22]), ([23, 20], [20, 23]), ([20, 24], [20, 24]), ([25, 23], [25]), ([26, 26], [26]), ([27, 27, 26], [26, 27]), ([26, 28], [26, 28]), ([29, 28, 0, 1, 2, 3, 4, 5, 6, 7, 8, 9, 10, 11, 12, 13, 14, 15, 16, 17, 18, 19, 20, 21, 22, 23, 24, 25, 26, 27, 28, 29], [29])])
def selkielaw11_alive.B4 : List Nat := [0, 0, 3, 7, 15, 31, 63, 127, 255, 255, 1023, 2047, 4095, 8191, 16383, 32767, 65535, 131071, 262143, 524287, 1048575, 2097151, 4194303, 8388607, 16777215, 33554431, 67108863, 134217727, 268435455, 536870911, 1073741823]
theorem selkielaw11_alive.tab4 : rtab .any (opsOf Tryd.f43 4) = selkielaw11_alive.T4 := by kernel_rfl
theorem selkielaw11_alive.bits4 : waitsOk selkielaw11_alive.T4.2 selkielaw11_alive.B4 = true := by kernel_rfl
set_option maxHeartbeats 8000000 in
set_option maxRecDepth 100000 in
theorem selkielaw11_alive.calls  (r : Bool) (w : World) (hT : Go.Proofs.YtpgpmldaggpciaaDoor.TabW.Tab w) (hr : r = true) (h : selkielaw11_alive.f  = some r) :
    Calls Tryd.prog 43 #[] w fun e w' => e = .returned (.bool r) ∧ Below w.heap.size w w' := by
  have hu32 := Tryd.underlying32
  have HB := Aside0.mk (Below.refl w.heap.size w)
  have HR := Aside0.mk hr
  clear hr
  have HTT := Aside0.mk hT
  clear hT
  have H : ((value_OfStr.f (⟨#[49, 48]⟩ : ByteArray)).bind fun bt101 => ((value_OfInt.f 1).bind fun bt104 => ((oper_Do.f 1 bt101.1 bt101.2.1 bt101.2.2 bt104.1 bt104.2.1 bt104.2.2 9).bind fun bt107 => ((value_OfInt.f 1).bind fun bt112 => ((value_OfStr.f (⟨#[97]⟩ : ByteArray)).bind fun bt115 => ((oper_Do.f 11 bt112.1 bt112.2.1 bt112.2.2 bt115.1 bt115.2.1 bt115.2.2 9).bind fun bt118 => ((value_OfInt.f 1).bind fun bt123 => ((value_OfStr.f (⟨#[97]⟩ : ByteArray)).bind fun bt126 => ((oper_Do.f 14 bt123.1 bt123.2.1 bt123.2.2 bt126.1 bt126.2.1 bt126.2.2 9).bind fun bt129 => ((value_OfInt.f 11).bind fun bt134 => (if (bt107.1 == bt134.1 && (bt107.2.1 == bt134.2.1 && (bt107.2.2.1.toList == bt134.2.2.toList))) = true then (if bt107.2.2.2 = 0 then ((value_OfStr.f (⟨#[49, 97]⟩ : ByteArray)).bind fun bt137 => (if (bt118.1 == bt137.1 && (bt118.2.1 == bt137.2.1 && (bt118.2.2.1.toList == bt137.2.2.toList))) = true then (if bt118.2.2.2 = 0 then (if bt129.2.2.2 = 18 then ((value_OfInt.f 1).bind fun bt140 => ((value_OfStr.f (⟨#[97]⟩ : ByteArray)).bind fun bt143 => ((oper_Blame.f 14 bt140.1 bt140.2.1 bt140.2.2 bt143.1 bt143.2.1 bt143.2.2).bind fun t146 => (if t146.toList = ([97, 116, 116, 101, 109, 112, 116, 32, 116, 111, 32, 99, 111, 109, 112, 97, 114, 101, 32, 110, 117, 109, 98, 101, 114, 32, 119, 105, 116, 104, 32, 115, 116, 114, 105, 110, 103] : List UInt8) then ((value_OfInt.f 0).bind fun bt147 => ((value_Truth.f bt147.1 bt147.2.1 bt147.2.2).bind fun t150 => (some t150))) else (some false))))) else (some false)) else (some false)) else (some false))) else (some false)) else (some false)))))))))))) = some r := h
  clear h
  replace H := Option.bind_eq_some_iff.mp H
  obtain ⟨⟨t101, t102, t103⟩, A10, H⟩ := H
  replace H : ((value_OfInt.f 1).bind fun bt104 => ((oper_Do.f 1 t101 t102 t103 bt104.1 bt104.2.1 bt104.2.2 9).bind fun bt107 => ((value_OfInt.f 1).bind fun bt112 => ((value_OfStr.f (⟨#[97]⟩ : ByteArray)).bind fun bt115 => ((oper_Do.f 11 bt112.1 bt112.2.1 bt112.2.2 bt115.1 bt115.2.1 bt115.2.2 9).bind fun bt118 => ((value_OfInt.f 1).bind fun bt123 => ((value_OfStr.f (⟨#[97]⟩ : ByteArray)).bind fun bt126 => ((oper_Do.f 14 bt123.1 bt123.2.1 bt123.2.2 bt126.1 bt126.2.1 bt126.2.2 9).bind fun bt129 => ((value_OfInt.f 11).bind fun bt134 => (if (bt107.1 == bt134.1 && (bt107.2.1 == bt134.2.1 && (bt107.2.2.1.toList == bt134.2.2.toList))) = true then (if bt107.2.2.2 = 0 then ((value_OfStr.f (⟨#[49, 97]⟩ : ByteArray)).bind fun bt137 => (if (bt118.1 == bt137.1 && (bt118.2.1 == bt137.2.1 && (bt118.2.2.1.toList == bt137.2.2.toList))) = true then (if bt118.2.2.2 = 0 then (if bt129.2.2.2 = 18 then ((value_OfInt.f 1).bind fun bt140 => ((value_OfStr.f (⟨#[97]⟩ : ByteArray)).bind fun bt143 => ((oper_Blame.f 14 bt140.1 bt140.2.1 bt140.2.2 bt143.1 bt143.2.1 bt143.2.2).bind fun t146 => (if t146.toList = ([97, 116, 116, 101, 109, 112, 116, 32, 116, 111, 32, 99, 111, 109, 112, 97, 114, 101, 32, 110, 117, 109, 98, 101, 114, 32, 119, 105, 116, 104, 32, 115, 116, 114, 105, 110, 103] : List UInt8) then ((value_OfInt.f 0).bind fun bt147 => ((value_Truth.f bt147.1 bt147.2.1 bt147.2.2).bind fun t150 => (some t150))) else (some false))))) else (some false)) else (some false)) else (some false))) else (some false)) else (some false))))))))))) = some r := H
  have A1 := Aside0.mk A10
  clear A10
  replace H := Option.bind_eq_some_iff.mp H
  obtain ⟨⟨t104, t105, t106⟩, A20, H⟩ := H
  replace H : ((oper_Do.f 1 t101 t102 t103 t104 t105 t106 9).bind fun bt107 => ((value_OfInt.f 1).bind fun bt112 => ((value_OfStr.f (⟨#[97]⟩ : ByteArray)).bind fun bt115 => ((oper_Do.f 11 bt112.1 bt112.2.1 bt112.2.2 bt115.1 bt115.2.1 bt115.2.2 9).bind fun bt118 => ((value_OfInt.f 1).bind fun bt123 => ((value_OfStr.f (⟨#[97]⟩ : ByteArray)).bind fun bt126 => ((oper_Do.f 14 bt123.1 bt123.2.1 bt123.2.2 bt126.1 bt126.2.1 bt126.2.2 9).bind fun bt129 => ((value_OfInt.f 11).bind fun bt134 => (if (bt107.1 == bt134.1 && (bt107.2.1 == bt134.2.1 && (bt107.2.2.1.toList == bt134.2.2.toList))) = true then (if bt107.2.2.2 = 0 then ((value_OfStr.f (⟨#[49, 97]⟩ : ByteArray)).bind fun bt137 => (if (bt118.1 == bt137.1 && (bt118.2.1 == bt137.2.1 && (bt118.2.2.1.toList == bt137.2.2.toList))) = true then (if bt118.2.2.2 = 0 then (if bt129.2.2.2 = 18 then ((value_OfInt.f 1).bind fun bt140 => ((value_OfStr.f (⟨#[97]⟩ : ByteArray)).bind fun bt143 => ((oper_Blame.f 14 bt140.1 bt140.2.1 bt140.2.2 bt143.1 bt143.2.1 bt143.2.2).bind fun t146 => (if t146.toList = ([97, 116, 116, 101, 109, 112, 116, 32, 116, 111, 32, 99, 111, 109, 112, 97, 114, 101, 32, 110, 117, 109, 98, 101, 114, 32, 119, 105, 116, 104, 32, 115, 116, 114, 105, 110, 103] : List UInt8) then ((value_OfInt.f 0).bind fun bt147 => ((value_Truth.f bt147.1 bt147.2.1 bt147.2.2).bind fun t150 => (some t150))) else (some false))))) else (some false)) else (some false)) else (some false))) else (some false)) else (some false)))))))))) = some r := H
  have A2 := Aside0.mk A20
  clear A20
  replace H := Option.bind_eq_some_iff.mp H
  obtain ⟨⟨t107, t108, t109, t110⟩, A30, H⟩ := H
  replace H : ((value_OfInt.f 1).bind fun bt112 => ((value_OfStr.f (⟨#[97]⟩ : ByteArray)).bind fun bt115 => ((oper_Do.f 11 bt112.1 bt112.2.1 bt112.2.2 bt115.1 bt115.2.1 bt115.2.2 9).bind fun bt118 => ((value_OfInt.f 1).bind fun bt123 => ((value_OfStr.f (⟨#[97]⟩ : ByteArray)).bind fun bt126 => ((oper_Do.f 14 bt123.1 bt123.2.1 bt123.2.2 bt126.1 bt126.2.1 bt126.2.2 9).bind fun bt129 => ((value_OfInt.f 11).bind fun bt134 => (if (t107 == bt134.1 && (t108 == bt134.2.1 && (t109.toList == bt134.2.2.toList))) = true then (if t110 = 0 then ((value_OfStr.f (⟨#[49, 97]⟩ : ByteArray)).bind fun bt137 => (if (bt118.1 == bt137.1 && (bt118.2.1 == bt137.2.1 && (bt118.2.2.1.toList == bt137.2.2.toList))) = true then (if bt118.2.2.2 = 0 then (if bt129.2.2.2 = 18 then ((value_OfInt.f 1).bind fun bt140 => ((value_OfStr.f (⟨#[97]⟩ : ByteArray)).bind fun bt143 => ((oper_Blame.f 14 bt140.1 bt140.2.1 bt140.2.2 bt143.1 bt143.2.1 bt143.2.2).bind fun t146 => (if t146.toList = ([97, 116, 116, 101, 109, 112, 116, 32, 116, 111, 32, 99, 111, 109, 112, 97, 114, 101, 32, 110, 117, 109, 98, 101, 114, 32, 119, 105, 116, 104, 32, 115, 116, 114, 105, 110, 103] : List UInt8) then ((value_OfInt.f 0).bind fun bt147 => ((value_Truth.f bt147.1 bt147.2.1 bt147.2.2).bind fun t150 => (some t150))) else (some false))))) else (some false)) else (some false)) else (some false))) else (some false)) else (some false))))))))) = some r := H
  have A3 := Aside0.mk A30
  clear A30
  replace H := Option.bind_eq_some_iff.mp H
  obtain ⟨⟨t112, t113, t114⟩, A40, H⟩ := H
  replace H : ((value_OfStr.f (⟨#[97]⟩ : ByteArray)).bind fun bt115 => ((oper_Do.f 11 t112 t113 t114 bt115.1 bt115.2.1 bt115.2.2 9).bind fun bt118 => ((value_OfInt.f 1).bind fun bt123 => ((value_OfStr.f (⟨#[97]⟩ : ByteArray)).bind fun bt126 => ((oper_Do.f 14 bt123.1 bt123.2.1 bt123.2.2 bt126.1 bt126.2.1 bt126.2.2 9).bind fun bt129 => ((value_OfInt.f 11).bind fun bt134 => (if (t107 == bt134.1 && (t108 == bt134.2.1 && (t109.toList == bt134.2.2.toList))) = true then (if t110 = 0 then ((value_OfStr.f (⟨#[49, 97]⟩ : ByteArray)).bind fun bt137 => (if (bt118.1 == bt137.1 && (bt118.2.1 == bt137.2.1 && (bt118.2.2.1.toList == bt137.2.2.toList))) = true then (if bt118.2.2.2 = 0 then (if bt129.2.2.2 = 18 then ((value_OfInt.f 1).bind fun bt140 => ((value_OfStr.f (⟨#[97]⟩ : ByteArray)).bind fun bt143 => ((oper_Blame.f 14 bt140.1 bt140.2.1 bt140.2.2 bt143.1 bt143.2.1 bt143.2.2).bind fun t146 => (if t146.toList = ([97, 116, 116, 101, 109, 112, 116, 32, 116, 111, 32, 99, 111, 109, 112, 97, 114, 101, 32, 110, 117, 109, 98, 101, 114, 32, 119, 105, 116, 104, 32, 115, 116, 114, 105, 110, 103] : List UInt8) then ((value_OfInt.f 0).bind fun bt147 => ((value_Truth.f bt147.1 bt147.2.1 bt147.2.2).bind fun t150 => (some t150))) else (some false))))) else (some false)) else (some false)) else (some false))) else (some false)) else (some false)))))))) = some r := H
  have A4 := Aside0.mk A40
  clear A40
  replace H := Option.bind_eq_some_iff.mp H
  obtain ⟨⟨t115, t116, t117⟩, A50, H⟩ := H
  replace H : ((oper_Do.f 11 t112 t113 t114 t115 t116 t117 9).bind fun bt118 => ((value_OfInt.f 1).bind fun bt123 => ((value_OfStr.f (⟨#[97]⟩ : ByteArray)).bind fun bt126 => ((oper_Do.f 14 bt123.1 bt123.2.1 bt123.2.2 bt126.1 bt126.2.1 bt126.2.2 9).bind fun bt129 => ((value_OfInt.f 11).bind fun bt134 => (if (t107 == bt134.1 && (t108 == bt134.2.1 && (t109.toList == bt134.2.2.toList))) = true then (if t110 = 0 then ((value_OfStr.f (⟨#[49, 97]⟩ : ByteArray)).bind fun bt137 => (if (bt118.1 == bt137.1 && (bt118.2.1 == bt137.2.1 && (bt118.2.2.1.toList == bt137.2.2.toList))) = true then (if bt118.2.2.2 = 0 then (if bt129.2.2.2 = 18 then ((value_OfInt.f 1).bind fun bt140 => ((value_OfStr.f (⟨#[97]⟩ : ByteArray)).bind fun bt143 => ((oper_Blame.f 14 bt140.1 bt140.2.1 bt140.2.2 bt143.1 bt143.2.1 bt143.2.2).bind fun t146 => (if t146.toList = ([97, 116, 116, 101, 109, 112, 116, 32, 116, 111, 32, 99, 111, 109, 112, 97, 114, 101, 32, 110, 117, 109, 98, 101, 114, 32, 119, 105, 116, 104, 32, 115, 116, 114, 105, 110, 103] : List UInt8) then ((value_OfInt.f 0).bind fun bt147 => ((value_Truth.f bt147.1 bt147.2.1 bt147.2.2).bind fun t150 => (some t150))) else (some false))))) else (some false)) else (some false)) else (some false))) else (some false)) else (some false))))))) = some r := H
  have A5 := Aside0.mk A50
  clear A50
  replace H := Option.bind_eq_some_iff.mp H
  obtain ⟨⟨t118, t119, t120, t121⟩, A60, H⟩ := H
  replace H : ((value_OfInt.f 1).bind fun bt123 => ((value_OfStr.f (⟨#[97]⟩ : ByteArray)).bind fun bt126 => ((oper_Do.f 14 bt123.1 bt123.2.1 bt123.2.2 bt126.1 bt126.2.1 bt126.2.2 9).bind fun bt129 => ((value_OfInt.f 11).bind fun bt134 => (if (t107 == bt134.1 && (t108 == bt134.2.1 && (t109.toList == bt134.2.2.toList))) = true then (if t110 = 0 then ((value_OfStr.f (⟨#[49, 97]⟩ : ByteArray)).bind fun bt137 => (if (t118 == bt137.1 && (t119 == bt137.2.1 && (t120.toList == bt137.2.2.toList))) = true then (if t121 = 0 then (if bt129.2.2.2 = 18 then ((value_OfInt.f 1).bind fun bt140 => ((value_OfStr.f (⟨#[97]⟩ : ByteArray)).bind fun bt143 => ((oper_Blame.f 14 bt140.1 bt140.2.1 bt140.2.2 bt143.1 bt143.2.1 bt143.2.2).bind fun t146 => (if t146.toList = ([97, 116, 116, 101, 109, 112, 116, 32, 116, 111, 32, 99, 111, 109, 112, 97, 114, 101, 32, 110, 117, 109, 98, 101, 114, 32, 119, 105, 116, 104, 32, 115, 116, 114, 105, 110, 103] : List UInt8) then ((value_OfInt.f 0).bind fun bt147 => ((value_Truth.f bt147.1 bt147.2.1 bt147.2.2).bind fun t150 => (some t150))) else (some false))))) else (some false)) else (some false)) else (some false))) else (some false)) else (some false)))))) = some r := H
  have A6 := Aside0.mk A60
  clear A60
  replace H := Option.bind_eq_some_iff.mp H
  obtain ⟨⟨t123, t124, t125⟩, A70, H⟩ := H
  replace H : ((value_OfStr.f (⟨#[97]⟩ : ByteArray)).bind fun bt126 => ((oper_Do.f 14 t123 t124 t125 bt126.1 bt126.2.1 bt126.2.2 9).bind fun bt129 => ((value_OfInt.f 11).bind fun bt134 => (if (t107 == bt134.1 && (t108 == bt134.2.1 && (t109.toList == bt134.2.2.toList))) = true then (if t110 = 0 then ((value_OfStr.f (⟨#[49, 97]⟩ : ByteArray)).bind fun bt137 => (if (t118 == bt137.1 && (t119 == bt137.2.1 && (t120.toList == bt137.2.2.toList))) = true then (if t121 = 0 then (if bt129.2.2.2 = 18 then ((value_OfInt.f 1).bind fun bt140 => ((value_OfStr.f (⟨#[97]⟩ : ByteArray)).bind fun bt143 => ((oper_Blame.f 14 bt140.1 bt140.2.1 bt140.2.2 bt143.1 bt143.2.1 bt143.2.2).bind fun t146 => (if t146.toList = ([97, 116, 116, 101, 109, 112, 116, 32, 116, 111, 32, 99, 111, 109, 112, 97, 114, 101, 32, 110, 117, 109, 98, 101, 114, 32, 119, 105, 116, 104, 32, 115, 116, 114, 105, 110, 103] : List UInt8) then ((value_OfInt.f 0).bind fun bt147 => ((value_Truth.f bt147.1 bt147.2.1 bt147.2.2).bind fun t150 => (some t150))) else (some false))))) else (some false)) else (some false)) else (some false))) else (some false)) else (some false))))) = some r := H
  have A7 := Aside0.mk A70
  clear A70
  replace H := Option.bind_eq_some_iff.mp H
  obtain ⟨⟨t126, t127, t128⟩, A80, H⟩ := H
  replace H : ((oper_Do.f 14 t123 t124 t125 t126 t127 t128 9).bind fun bt129 => ((value_OfInt.f 11).bind fun bt134 => (if (t107 == bt134.1 && (t108 == bt134.2.1 && (t109.toList == bt134.2.2.toList))) = true then (if t110 = 0 then ((value_OfStr.f (⟨#[49, 97]⟩ : ByteArray)).bind fun bt137 => (if (t118 == bt137.1 && (t119 == bt137.2.1 && (t120.toList == bt137.2.2.toList))) = true then (if t121 = 0 then (if bt129.2.2.2 = 18 then ((value_OfInt.f 1).bind fun bt140 => ((value_OfStr.f (⟨#[97]⟩ : ByteArray)).bind fun bt143 => ((oper_Blame.f 14 bt140.1 bt140.2.1 bt140.2.2 bt143.1 bt143.2.1 bt143.2.2).bind fun t146 => (if t146.toList = ([97, 116, 116, 101, 109, 112, 116, 32, 116, 111, 32, 99, 111, 109, 112, 97, 114, 101, 32, 110, 117, 109, 98, 101, 114, 32, 119, 105, 116, 104, 32, 115, 116, 114, 105, 110, 103] : List UInt8) then ((value_OfInt.f 0).bind fun bt147 => ((value_Truth.f bt147.1 bt147.2.1 bt147.2.2).bind fun t150 => (some t150))) else (some false))))) else (some false)) else (some false)) else (some false))) else (some false)) else (some false)))) = some r := H
  have A8 := Aside0.mk A80
  clear A80
  replace H := Option.bind_eq_some_iff.mp H
  obtain ⟨⟨t129, t130, t131, t132⟩, A90, H⟩ := H
  replace H : ((value_OfInt.f 11).bind fun bt134 => (if (t107 == bt134.1 && (t108 == bt134.2.1 && (t109.toList == bt134.2.2.toList))) = true then (if t110 = 0 then ((value_OfStr.f (⟨#[49, 97]⟩ : ByteArray)).bind fun bt137 => (if (t118 == bt137.1 && (t119 == bt137.2.1 && (t120.toList == bt137.2.2.toList))) = true then (if t121 = 0 then (if t132 = 18 then ((value_OfInt.f 1).bind fun bt140 => ((value_OfStr.f (⟨#[97]⟩ : ByteArray)).bind fun bt143 => ((oper_Blame.f 14 bt140.1 bt140.2.1 bt140.2.2 bt143.1 bt143.2.1 bt143.2.2).bind fun t146 => (if t146.toList = ([97, 116, 116, 101, 109, 112, 116, 32, 116, 111, 32, 99, 111, 109, 112, 97, 114, 101, 32, 110, 117, 109, 98, 101, 114, 32, 119, 105, 116, 104, 32, 115, 116, 114, 105, 110, 103] : List UInt8) then ((value_OfInt.f 0).bind fun bt147 => ((value_Truth.f bt147.1 bt147.2.1 bt147.2.2).bind fun t150 => (some t150))) else (some false))))) else (some false)) else (some false)) else (some false))) else (some false)) else (some false))) = some r := H
  have A9 := Aside0.mk A90
  clear A90
  replace H := Option.bind_eq_some_iff.mp H
  obtain ⟨⟨t134, t135, t136⟩, A100, H⟩ := H
  replace H : (if (t107 == t134 && (t108 == t135 && (t109.toList == t136.toList))) = true then (if t110 = 0 then ((value_OfStr.f (⟨#[49, 97]⟩ : ByteArray)).bind fun bt137 => (if (t118 == bt137.1 && (t119 == bt137.2.1 && (t120.toList == bt137.2.2.toList))) = true then (if t121 = 0 then (if t132 = 18 then ((value_OfInt.f 1).bind fun bt140 => ((value_OfStr.f (⟨#[97]⟩ : ByteArray)).bind fun bt143 => ((oper_Blame.f 14 bt140.1 bt140.2.1 bt140.2.2 bt143.1 bt143.2.1 bt143.2.2).bind fun t146 => (if t146.toList = ([97, 116, 116, 101, 109, 112, 116, 32, 116, 111, 32, 99, 111, 109, 112, 97, 114, 101, 32, 110, 117, 109, 98, 101, 114, 32, 119, 105, 116, 104, 32, 115, 116, 114, 105, 110, 103] : List UInt8) then ((value_OfInt.f 0).bind fun bt147 => ((value_Truth.f bt147.1 bt147.2.1 bt147.2.2).bind fun t150 => (some t150))) else (some false))))) else (some false)) else (some false)) else (some false))) else (some false)) else (some false)) = some r := H
  have A10 := Aside0.mk A100
  clear A100
  by_cases c11 : (t107 == t134 && (t108 == t135 && (t109.toList == t136.toList))) = true
  · rw [if_pos c11] at H
    have c11b0 : (t107 == t134 && (t108 == t135 && (t109.toList == t136.toList))) = true := c11
    (try (have c11b1 : decide (t107 = t134 && (t108 == t135 && (t109.toList == t136.toList))) = true := by simpa using c11))
    (try (have c11b2 : (t107 == t134 && (t108 == t135 && (t109.toList == t136.toList))) = true := by simpa using c11))
    clear c11
    by_cases c12 : t110 = 0
    · rw [if_pos c12] at H
      have c12b0 : (t110 == 0) = true := beq_iff_eq.mpr c12
      have c12b1 : (t110 != 0) = false := bne_eq_false_iff_eq.mpr c12
      clear c12
      replace H := Option.bind_eq_some_iff.mp H
      obtain ⟨⟨t137, t138, t139⟩, A130, H⟩ := H
      replace H : (if (t118 == t137 && (t119 == t138 && (t120.toList == t139.toList))) = true then (if t121 = 0 then (if t132 = 18 then ((value_OfInt.f 1).bind fun bt140 => ((value_OfStr.f (⟨#[97]⟩ : ByteArray)).bind fun bt143 => ((oper_Blame.f 14 bt140.1 bt140.2.1 bt140.2.2 bt143.1 bt143.2.1 bt143.2.2).bind fun t146 => (if t146.toList = ([97, 116, 116, 101, 109, 112, 116, 32, 116, 111, 32, 99, 111, 109, 112, 97, 114, 101, 32, 110, 117, 109, 98, 101, 114, 32, 119, 105, 116, 104, 32, 115, 116, 114, 105, 110, 103] : List UInt8) then ((value_OfInt.f 0).bind fun bt147 => ((value_Truth.f bt147.1 bt147.2.1 bt147.2.2).bind fun t150 => (some t150))) else (some false))))) else (some false)) else (some false)) else (some false)) = some r := H
      have A13 := Aside0.mk A130
      clear A130
      by_cases c14 : (t118 == t137 && (t119 == t138 && (t120.toList == t139.toList))) = true
      · rw [if_pos c14] at H
        have c14b0 : (t118 == t137 && (t119 == t138 && (t120.toList == t139.toList))) = true := c14
        (try (have c14b1 : decide (t118 = t137 && (t119 == t138 && (t120.toList == t139.toList))) = true := by simpa using c14))
        (try (have c14b2 : (t118 == t137 && (t119 == t138 && (t120.toList == t139.toList))) = true := by simpa using c14))
        clear c14
        by_cases c15 : t121 = 0
        · rw [if_pos c15] at H
          have c15b0 : (t121 == 0) = true := beq_iff_eq.mpr c15
          have c15b1 : (t121 != 0) = false := bne_eq_false_iff_eq.mpr c15
          clear c15
          by_cases c16 : t132 = 18
          · rw [if_pos c16] at H
            have c16b0 : (t132 == 18) = true := beq_iff_eq.mpr c16
            have c16b1 : (t132 != 18) = false := bne_eq_false_iff_eq.mpr c16
            clear c16
            replace H := Option.bind_eq_some_iff.mp H
            obtain ⟨⟨t140, t141, t142⟩, A170, H⟩ := H
            replace H : ((value_OfStr.f (⟨#[97]⟩ : ByteArray)).bind fun bt143 => ((oper_Blame.f 14 t140 t141 t142 bt143.1 bt143.2.1 bt143.2.2).bind fun t146 => (if t146.toList = ([97, 116, 116, 101, 109, 112, 116, 32, 116, 111, 32, 99, 111, 109, 112, 97, 114, 101, 32, 110, 117, 109, 98, 101, 114, 32, 119, 105, 116, 104, 32, 115, 116, 114, 105, 110, 103] : List UInt8) then ((value_OfInt.f 0).bind fun bt147 => ((value_Truth.f bt147.1 bt147.2.1 bt147.2.2).bind fun t150 => (some t150))) else (some false)))) = some r := H
            have A17 := Aside0.mk A170
            clear A170
            replace H := Option.bind_eq_some_iff.mp H
            obtain ⟨⟨t143, t144, t145⟩, A180, H⟩ := H
            replace H : ((oper_Blame.f 14 t140 t141 t142 t143 t144 t145).bind fun t146 => (if t146.toList = ([97, 116, 116, 101, 109, 112, 116, 32, 116, 111, 32, 99, 111, 109, 112, 97, 114, 101, 32, 110, 117, 109, 98, 101, 114, 32, 119, 105, 116, 104, 32, 115, 116, 114, 105, 110, 103] : List UInt8) then ((value_OfInt.f 0).bind fun bt147 => ((value_Truth.f bt147.1 bt147.2.1 bt147.2.2).bind fun t150 => (some t150))) else (some false))) = some r := H
            have A18 := Aside0.mk A180
            clear A180
            replace H := Option.bind_eq_some_iff.mp H
            obtain ⟨t146, A190, H⟩ := H
            replace H : (if t146.toList = ([97, 116, 116, 101, 109, 112, 116, 32, 116, 111, 32, 99, 111, 109, 112, 97, 114, 101, 32, 110, 117, 109, 98, 101, 114, 32, 119, 105, 116, 104, 32, 115, 116, 114, 105, 110, 103] : List UInt8) then ((value_OfInt.f 0).bind fun bt147 => ((value_Truth.f bt147.1 bt147.2.1 bt147.2.2).bind fun t150 => (some t150))) else (some false)) = some r := H
            have A19 := Aside0.mk A190
            clear A190
            by_cases c20 : t146.toList = ([97, 116, 116, 101, 109, 112, 116, 32, 116, 111, 32, 99, 111, 109, 112, 97, 114, 101, 32, 110, 117, 109, 98, 101, 114, 32, 119, 105, 116, 104, 32, 115, 116, 114, 105, 110, 103] : List UInt8)
            · rw [if_pos c20] at H
              have c20b0 : (t146.toList == ([97, 116, 116, 101, 109, 112, 116, 32, 116, 111, 32, 99, 111, 109, 112, 97, 114, 101, 32, 110, 117, 109, 98, 101, 114, 32, 119, 105, 116, 104, 32, 115, 116, 114, 105, 110, 103] : List UInt8)) = true := beq_iff_eq.mpr c20
              have c20b1 : (t146.toList != ([97, 116, 116, 101, 109, 112, 116, 32, 116, 111, 32, 99, 111, 109, 112, 97, 114, 101, 32, 110, 117, 109, 98, 101, 114, 32, 119, 105, 116, 104, 32, 115, 116, 114, 105, 110, 103] : List UInt8)) = false := bne_eq_false_iff_eq.mpr c20
              clear c20
              replace H := Option.bind_eq_some_iff.mp H
              obtain ⟨⟨t147, t148, t149⟩, A210, H⟩ := H
              replace H : ((value_Truth.f t147 t148 t149).bind fun t150 => (some t150)) = some r := H
              have A21 := Aside0.mk A210
              clear A210
              replace H := Option.bind_eq_some_iff.mp H
              obtain ⟨t150, A220, H⟩ := H
              replace H : (some t150) = some r := H
              have A22 := Aside0.mk A220
              clear A220
              obtain rfl := Option.some.inj H
              go_enter Tryd.func43, Tryd.ntmps43
              try go_wp2_with (first | ((with_reducible refine gate_callee (f := 55) rfl ?_); refine goesL_ (some 8) rfl rfl Tryd.func55 (by kernel_rfl) rfl #[.string (⟨#[49, 48]⟩ : ByteArray)] rfl (by (try simp only [List.map_toArray, List.map_cons, List.map_nil]); first | done | rfl | (simp only [List.length_drop, List.length_take]; rfl)) ?_; (with_reducible refine (value_OfStr.calls (⟨#[49, 48]⟩ : ByteArray) t101 t102 t103 _ A1.out).mono ?_); rintro e w23 ⟨rfl, hb⟩; refine ⟨_, rfl, ?_⟩; have n0_ := Aside0.mk (below_step (by repeat (first | (with_reducible first | exact HB.out | apply below_alloc | apply pw_below_drewN | apply below_drew1) | exact HB.out)) hb); clear HB; have HB := n0_; clear n0_; (try clear hb); (try clear hb2); (try clear hk); (try clear hi)) | ((with_reducible refine gate_callee (f := 53) rfl ?_); refine goesL_ (some 9) rfl rfl Tryd.func53 (by kernel_rfl) rfl #[.int .i64 1] rfl (by (try simp only [List.map_toArray, List.map_cons, List.map_nil]); first | done | rfl | (simp only [List.length_drop, List.length_take]; rfl)) ?_; (with_reducible refine (value_OfInt.calls 1 t104 t105 t106 _ A2.out).mono ?_); rintro e w24 ⟨rfl, hb⟩; refine ⟨_, rfl, ?_⟩; have n0_ := Aside0.mk (below_step (by repeat (first | (with_reducible first | exact HB.out | apply below_alloc | apply pw_below_drewN | apply below_drew1) | exact HB.out)) hb); clear HB; have HB := n0_; clear n0_; (try clear hb); (try clear hb2); (try clear hk); (try clear hi)) | ((with_reducible refine gate_callee (f := 46) rfl ?_); refine goesL_ (some 10) rfl rfl Tryd.func46 (by kernel_rfl) rfl #[.int .i64 1, .agg #[.int .i64 t101, .int .i64 t102, .string t103], .agg #[.int .i64 t104, .int .i64 t105, .string t106], .int .i64 9] rfl (by (try simp only [List.map_toArray, List.map_cons, List.map_nil]); first | done | rfl | (simp only [List.length_drop, List.length_take]; rfl)) ?_; (with_reducible refine (oper_Do.calls 1 t101 t102 t103 t104 t105 t106 9 t107 t108 t109 t110 _ (HTT.out.on (by repeat (first | (with_reducible first | exact HB.out | apply below_alloc | apply pw_below_drewN | apply below_drew1) | exact HB.out))) A3.out).mono ?_); rintro e w25 ⟨rfl, hb⟩; refine ⟨_, rfl, ?_⟩; have n0_ := Aside0.mk (below_step (by repeat (first | (with_reducible first | exact HB.out | apply below_alloc | apply pw_below_drewN | apply below_drew1) | exact HB.out)) hb); clear HB; have HB := n0_; clear n0_; (try clear hb); (try clear hb2); (try clear hk); (try clear hi)) | ((with_reducible refine gate_dst (N := 1) rfl ?_); refine box_event ?hg (N := 1) ?hd (cs := #[.int .i64 0, .int .i64 0, .string (⟨#[]⟩ : ByteArray)]) (t := 32) ?hr ?_; (case hd => rfl); (case hg => rfl); (case hr => first | (go_simp; done) | (go_simp; rfl)); intro gb111 hg w26 hbox hb; have n0_ := Aside0.mk (below_step (by repeat (first | (with_reducible first | exact HB.out | apply below_alloc | apply pw_below_drewN | apply below_drew1) | exact HB.out)) hb); have n1_ := Aside0.mk (hbox); have n2_ := Aside0.mk ((by rw [hg]; exact (below_size (by repeat (first | (with_reducible first | exact HB.out | apply below_alloc | apply pw_below_drewN | apply below_drew1) | exact HB.out))) : w.heap.size ≤ gb111)); have n3_ := Aside0.mk ((by rw [hg]; exact (below_size (by repeat (first | (with_reducible first | exact HB.out | apply below_alloc | apply pw_below_drewN | apply below_drew1) | exact HB.out))) : w.heap.size ≤ gb111)); clear HB; have HB := n0_; have BK111 := n1_; have GW111 := n2_; have GE111 := n3_; clear n0_ n1_ n2_ n3_; clear hb hbox hg; have hcz27_0 : w26.cell? ⟨gb111, 0, none⟩ = some (.int .i64 0) := (blk_cell BK111.out 0).trans rfl; have hcz27_1 : w26.cell? ⟨gb111, 1, none⟩ = some (.int .i64 0) := (blk_cell BK111.out 1).trans rfl; have hcz27_2 : w26.cell? ⟨gb111, 2, none⟩ = some (.string (⟨#[]⟩ : ByteArray)) := (blk_cell BK111.out 2).trans rfl; have hfz27_0 := blk_frozen BK111.out 0; have hfz27_1 := blk_frozen BK111.out 1; have hfz27_2 := blk_frozen BK111.out 2) | ((with_reducible refine gate_callee (f := 53) rfl ?_); refine goesL_ (some 14) rfl rfl Tryd.func53 (by kernel_rfl) rfl #[.int .i64 1] rfl (by (try simp only [List.map_toArray, List.map_cons, List.map_nil]); first | done | rfl | (simp only [List.length_drop, List.length_take]; rfl)) ?_; (with_reducible refine (value_OfInt.calls 1 t112 t113 t114 _ A4.out).mono ?_); rintro e w28 ⟨rfl, hb⟩; refine ⟨_, rfl, ?_⟩; have n0_ := Aside0.mk (blk_below (g := gb111) (o := .cells #[.int .i64 t107, .int .i64 t108, .string t109] 32 (0, 0)) (by (with_reducible repeat (first | refine blk_drewN ?_ _ | refine blk_drew ?_ | refine blk_alloc ?_ _)); refine blk_put (cs := #[.int .i64 t107, .int .i64 t108, .string (⟨#[]⟩ : ByteArray)]) ?_ 2 _ rfl; (with_reducible repeat (first | refine blk_drewN ?_ _ | refine blk_drew ?_ | refine blk_alloc ?_ _)); refine blk_put (cs := #[.int .i64 t107, .int .i64 0, .string (⟨#[]⟩ : ByteArray)]) ?_ 1 _ rfl; (with_reducible repeat (first | refine blk_drewN ?_ _ | refine blk_drew ?_ | refine blk_alloc ?_ _)); refine blk_put (cs := #[.int .i64 0, .int .i64 0, .string (⟨#[]⟩ : ByteArray)]) ?_ 0 _ rfl; (with_reducible repeat (first | refine blk_drewN ?_ _ | refine blk_drew ?_ | refine blk_alloc ?_ _)); exact BK111.out) hb); have n1_ := Aside0.mk (below_step (by repeat (first | (with_reducible first | exact HB.out | apply below_alloc | apply pw_below_drewN | apply below_drew1 | refine below_set ?_ GE111.out) | exact HB.out)) hb); clear BK111; clear HB; have BK111 := n0_; have HB := n1_; clear n0_ n1_; (try clear hb); (try clear hb2); (try clear hk); (try clear hi)) | ((with_reducible refine gate_callee (f := 55) rfl ?_); refine goesL_ (some 15) rfl rfl Tryd.func55 (by kernel_rfl) rfl #[.string (⟨#[97]⟩ : ByteArray)] rfl (by (try simp only [List.map_toArray, List.map_cons, List.map_nil]); first | done | rfl | (simp only [List.length_drop, List.length_take]; rfl)) ?_; (with_reducible refine (value_OfStr.calls (⟨#[97]⟩ : ByteArray) t115 t116 t117 _ A5.out).mono ?_); rintro e w29 ⟨rfl, hb⟩; refine ⟨_, rfl, ?_⟩; have n0_ := Aside0.mk (blk_below (g := gb111) (o := .cells #[.int .i64 t107, .int .i64 t108, .string t109] 32 (0, 0)) (by (with_reducible repeat (first | refine blk_drewN ?_ _ | refine blk_drew ?_ | refine blk_alloc ?_ _)); exact BK111.out) hb); have n1_ := Aside0.mk (below_step (by repeat (first | (with_reducible first | exact HB.out | apply below_alloc | apply pw_below_drewN | apply below_drew1 | refine below_set ?_ GE111.out) | exact HB.out)) hb); clear BK111; clear HB; have BK111 := n0_; have HB := n1_; clear n0_ n1_; (try clear hb); (try clear hb2); (try clear hk); (try clear hi)) | ((with_reducible refine gate_callee (f := 46) rfl ?_); refine goesL_ (some 16) rfl rfl Tryd.func46 (by kernel_rfl) rfl #[.int .i64 11, .agg #[.int .i64 t112, .int .i64 t113, .string t114], .agg #[.int .i64 t115, .int .i64 t116, .string t117], .int .i64 9] rfl (by (try simp only [List.map_toArray, List.map_cons, List.map_nil]); first | done | rfl | (simp only [List.length_drop, List.length_take]; rfl)) ?_; (with_reducible refine (oper_Do.calls 11 t112 t113 t114 t115 t116 t117 9 t118 t119 t120 t121 _ (HTT.out.on (by repeat (first | (with_reducible first | exact HB.out | apply below_alloc | apply pw_below_drewN | apply below_drew1 | refine below_set ?_ GE111.out) | exact HB.out))) A6.out).mono ?_); rintro e w30 ⟨rfl, hb⟩; refine ⟨_, rfl, ?_⟩; have n0_ := Aside0.mk (blk_below (g := gb111) (o := .cells #[.int .i64 t107, .int .i64 t108, .string t109] 32 (0, 0)) (by (with_reducible repeat (first | refine blk_drewN ?_ _ | refine blk_drew ?_ | refine blk_alloc ?_ _)); exact BK111.out) hb); have n1_ := Aside0.mk (below_step (by repeat (first | (with_reducible first | exact HB.out | apply below_alloc | apply pw_below_drewN | apply below_drew1 | refine below_set ?_ GE111.out) | exact HB.out)) hb); clear BK111; clear HB; have BK111 := n0_; have HB := n1_; clear n0_ n1_; (try clear hb); (try clear hb2); (try clear hk); (try clear hi)) | ((with_reducible refine gate_dst (N := 3) rfl ?_); refine box_event ?hg (N := 3) ?hd (cs := #[.int .i64 0, .int .i64 0, .string (⟨#[]⟩ : ByteArray)]) (t := 32) ?hr ?_; (case hd => rfl); (case hg => rfl); (case hr => first | (go_simp; done) | (go_simp; rfl)); intro gb122 hg w31 hbox hb; have n0_ := Aside0.mk (blk_below (g := gb111) (o := .cells #[.int .i64 t107, .int .i64 t108, .string t109] 32 (0, 0)) (by (with_reducible repeat (first | refine blk_drewN ?_ _ | refine blk_drew ?_ | refine blk_alloc ?_ _)); exact BK111.out) hb); have n1_ := Aside0.mk (below_step (by repeat (first | (with_reducible first | exact HB.out | apply below_alloc | apply pw_below_drewN | apply below_drew1 | refine below_set ?_ GE111.out) | exact HB.out)) hb); have n2_ := Aside0.mk (hbox); have n3_ := Aside0.mk ((by rw [hg]; exact (below_size (by repeat (first | (with_reducible first | exact HB.out | apply below_alloc | apply pw_below_drewN | apply below_drew1 | refine below_set ?_ GE111.out) | exact HB.out))) : w.heap.size ≤ gb122)); have n4_ := Aside0.mk ((by rw [hg]; exact (below_size (by repeat (first | (with_reducible first | exact HB.out | apply below_alloc | apply pw_below_drewN | apply below_drew1 | refine below_set ?_ GE111.out) | exact HB.out))) : w.heap.size ≤ gb122)); have n5_ := Aside0.mk ((by rw [hg]; exact Nat.ne_of_lt (blk_lt (g := gb111) (o := .cells #[.int .i64 t107, .int .i64 t108, .string t109] 32 (0, 0)) (by (with_reducible repeat (first | refine blk_drewN ?_ _ | refine blk_drew ?_ | refine blk_alloc ?_ _)); exact BK111.out)) : gb111 ≠ gb122)); have n6_ := Aside0.mk ((by rw [hg]; exact Nat.ne_of_gt (blk_lt (g := gb111) (o := .cells #[.int .i64 t107, .int .i64 t108, .string t109] 32 (0, 0)) (by (with_reducible repeat (first | refine blk_drewN ?_ _ | refine blk_drew ?_ | refine blk_alloc ?_ _)); exact BK111.out)) : gb122 ≠ gb111)); clear BK111; clear HB; have BK111 := n0_; have HB := n1_; have BK122 := n2_; have GW122 := n3_; have GE122 := n4_; have NB111_122 := n5_; have NB122_111 := n6_; clear n0_ n1_ n2_ n3_ n4_ n5_ n6_; clear hb hbox hg; have hnb32 := NB122_111.out; have hnc32 := NB111_122.out; have hcz33_0 : w31.cell? ⟨gb122, 0, none⟩ = some (.int .i64 0) := (blk_cell BK122.out 0).trans rfl; have hcz33_1 : w31.cell? ⟨gb122, 1, none⟩ = some (.int .i64 0) := (blk_cell BK122.out 1).trans rfl; have hcz33_2 : w31.cell? ⟨gb122, 2, none⟩ = some (.string (⟨#[]⟩ : ByteArray)) := (blk_cell BK122.out 2).trans rfl; have hfz33_0 := blk_frozen BK122.out 0; have hfz33_1 := blk_frozen BK122.out 1; have hfz33_2 := blk_frozen BK122.out 2) | ((with_reducible refine gate_callee (f := 53) rfl ?_); refine goesL_ (some 20) rfl rfl Tryd.func53 (by kernel_rfl) rfl #[.int .i64 1] rfl (by (try simp only [List.map_toArray, List.map_cons, List.map_nil]); first | done | rfl | (simp only [List.length_drop, List.length_take]; rfl)) ?_; (with_reducible refine (value_OfInt.calls 1 t123 t124 t125 _ A7.out).mono ?_); rintro e w34 ⟨rfl, hb⟩; refine ⟨_, rfl, ?_⟩; have n0_ := Aside0.mk (blk_below (g := gb111) (o := .cells #[.int .i64 t107, .int .i64 t108, .string t109] 32 (0, 0)) (by (with_reducible repeat (first | refine blk_drewN ?_ _ | refine blk_drew ?_ | refine blk_alloc ?_ _)); refine blk_far ?_ NB111_122.out _; (with_reducible repeat (first | refine blk_drewN ?_ _ | refine blk_drew ?_ | refine blk_alloc ?_ _)); refine blk_far ?_ NB111_122.out _; (with_reducible repeat (first | refine blk_drewN ?_ _ | refine blk_drew ?_ | refine blk_alloc ?_ _)); refine blk_far ?_ NB111_122.out _; (with_reducible repeat (first | refine blk_drewN ?_ _ | refine blk_drew ?_ | refine blk_alloc ?_ _)); exact BK111.out) hb); have n1_ := Aside0.mk (blk_below (g := gb122) (o := .cells #[.int .i64 t118, .int .i64 t119, .string t120] 32 (0, 0)) (by (with_reducible repeat (first | refine blk_drewN ?_ _ | refine blk_drew ?_ | refine blk_alloc ?_ _)); refine blk_put (cs := #[.int .i64 t118, .int .i64 t119, .string (⟨#[]⟩ : ByteArray)]) ?_ 2 _ rfl; (with_reducible repeat (first | refine blk_drewN ?_ _ | refine blk_drew ?_ | refine blk_alloc ?_ _)); refine blk_put (cs := #[.int .i64 t118, .int .i64 0, .string (⟨#[]⟩ : ByteArray)]) ?_ 1 _ rfl; (with_reducible repeat (first | refine blk_drewN ?_ _ | refine blk_drew ?_ | refine blk_alloc ?_ _)); refine blk_put (cs := #[.int .i64 0, .int .i64 0, .string (⟨#[]⟩ : ByteArray)]) ?_ 0 _ rfl; (with_reducible repeat (first | refine blk_drewN ?_ _ | refine blk_drew ?_ | refine blk_alloc ?_ _)); exact BK122.out) hb); have n2_ := Aside0.mk (below_step (by repeat (first | (with_reducible first | exact HB.out | apply below_alloc | apply pw_below_drewN | apply below_drew1 | refine below_set ?_ GE111.out | refine below_set ?_ GE122.out) | exact HB.out)) hb); clear BK111; clear BK122; clear HB; have BK111 := n0_; have BK122 := n1_; have HB := n2_; clear n0_ n1_ n2_; (try clear hb); (try clear hb2); (try clear hk); (try clear hi)) | ((with_reducible refine gate_callee (f := 55) rfl ?_); refine goesL_ (some 21) rfl rfl Tryd.func55 (by kernel_rfl) rfl #[.string (⟨#[97]⟩ : ByteArray)] rfl (by (try simp only [List.map_toArray, List.map_cons, List.map_nil]); first | done | rfl | (simp only [List.length_drop, List.length_take]; rfl)) ?_; (with_reducible refine (value_OfStr.calls (⟨#[97]⟩ : ByteArray) t126 t127 t128 _ A8.out).mono ?_); rintro e w35 ⟨rfl, hb⟩; refine ⟨_, rfl, ?_⟩; have n0_ := Aside0.mk (blk_below (g := gb111) (o := .cells #[.int .i64 t107, .int .i64 t108, .string t109] 32 (0, 0)) (by (with_reducible repeat (first | refine blk_drewN ?_ _ | refine blk_drew ?_ | refine blk_alloc ?_ _)); exact BK111.out) hb); have n1_ := Aside0.mk (blk_below (g := gb122) (o := .cells #[.int .i64 t118, .int .i64 t119, .string t120] 32 (0, 0)) (by (with_reducible repeat (first | refine blk_drewN ?_ _ | refine blk_drew ?_ | refine blk_alloc ?_ _)); exact BK122.out) hb); have n2_ := Aside0.mk (below_step (by repeat (first | (with_reducible first | exact HB.out | apply below_alloc | apply pw_below_drewN | apply below_drew1 | refine below_set ?_ GE111.out | refine below_set ?_ GE122.out) | exact HB.out)) hb); clear BK111; clear BK122; clear HB; have BK111 := n0_; have BK122 := n1_; have HB := n2_; clear n0_ n1_ n2_; (try clear hb); (try clear hb2); (try clear hk); (try clear hi)) | ((with_reducible refine gate_callee (f := 46) rfl ?_); refine goesL_ (some 22) rfl rfl Tryd.func46 (by kernel_rfl) rfl #[.int .i64 14, .agg #[.int .i64 t123, .int .i64 t124, .string t125], .agg #[.int .i64 t126, .int .i64 t127, .string t128], .int .i64 9] rfl (by (try simp only [List.map_toArray, List.map_cons, List.map_nil]); first | done | rfl | (simp only [List.length_drop, List.length_take]; rfl)) ?_; (with_reducible refine (oper_Do.calls 14 t123 t124 t125 t126 t127 t128 9 t129 t130 t131 t132 _ (HTT.out.on (by repeat (first | (with_reducible first | exact HB.out | apply below_alloc | apply pw_below_drewN | apply below_drew1 | refine below_set ?_ GE111.out | refine below_set ?_ GE122.out) | exact HB.out))) A9.out).mono ?_); rintro e w36 ⟨rfl, hb⟩; refine ⟨_, rfl, ?_⟩; have n0_ := Aside0.mk (blk_below (g := gb111) (o := .cells #[.int .i64 t107, .int .i64 t108, .string t109] 32 (0, 0)) (by (with_reducible repeat (first | refine blk_drewN ?_ _ | refine blk_drew ?_ | refine blk_alloc ?_ _)); exact BK111.out) hb); have n1_ := Aside0.mk (blk_below (g := gb122) (o := .cells #[.int .i64 t118, .int .i64 t119, .string t120] 32 (0, 0)) (by (with_reducible repeat (first | refine blk_drewN ?_ _ | refine blk_drew ?_ | refine blk_alloc ?_ _)); exact BK122.out) hb); have n2_ := Aside0.mk (below_step (by repeat (first | (with_reducible first | exact HB.out | apply below_alloc | apply pw_below_drewN | apply below_drew1 | refine below_set ?_ GE111.out | refine below_set ?_ GE122.out) | exact HB.out)) hb); clear BK111; clear BK122; clear HB; have BK111 := n0_; have BK122 := n1_; have HB := n2_; clear n0_ n1_ n2_; (try clear hb); (try clear hb2); (try clear hk); (try clear hi)) | ((with_reducible refine gate_dst (N := 5) rfl ?_); refine box_event ?hg (N := 5) ?hd (cs := #[.int .i64 0, .int .i64 0, .string (⟨#[]⟩ : ByteArray)]) (t := 32) ?hr ?_; (case hd => rfl); (case hg => rfl); (case hr => first | (go_simp; done) | (go_simp; rfl)); intro gb133 hg w37 hbox hb; have n0_ := Aside0.mk (blk_below (g := gb111) (o := .cells #[.int .i64 t107, .int .i64 t108, .string t109] 32 (0, 0)) (by (with_reducible repeat (first | refine blk_drewN ?_ _ | refine blk_drew ?_ | refine blk_alloc ?_ _)); exact BK111.out) hb); have n1_ := Aside0.mk (blk_below (g := gb122) (o := .cells #[.int .i64 t118, .int .i64 t119, .string t120] 32 (0, 0)) (by (with_reducible repeat (first | refine blk_drewN ?_ _ | refine blk_drew ?_ | refine blk_alloc ?_ _)); exact BK122.out) hb); have n2_ := Aside0.mk (below_step (by repeat (first | (with_reducible first | exact HB.out | apply below_alloc | apply pw_below_drewN | apply below_drew1 | refine below_set ?_ GE111.out | refine below_set ?_ GE122.out) | exact HB.out)) hb); have n3_ := Aside0.mk (hbox); have n4_ := Aside0.mk ((by rw [hg]; exact (below_size (by repeat (first | (with_reducible first | exact HB.out | apply below_alloc | apply pw_below_drewN | apply below_drew1 | refine below_set ?_ GE111.out | refine below_set ?_ GE122.out) | exact HB.out))) : w.heap.size ≤ gb133)); have n5_ := Aside0.mk ((by rw [hg]; exact (below_size (by repeat (first | (with_reducible first | exact HB.out | apply below_alloc | apply pw_below_drewN | apply below_drew1 | refine below_set ?_ GE111.out | refine below_set ?_ GE122.out) | exact HB.out))) : w.heap.size ≤ gb133)); have n6_ := Aside0.mk ((by rw [hg]; exact Nat.ne_of_lt (blk_lt (g := gb111) (o := .cells #[.int .i64 t107, .int .i64 t108, .string t109] 32 (0, 0)) (by (with_reducible repeat (first | refine blk_drewN ?_ _ | refine blk_drew ?_ | refine blk_alloc ?_ _)); exact BK111.out)) : gb111 ≠ gb133)); have n7_ := Aside0.mk ((by rw [hg]; exact Nat.ne_of_gt (blk_lt (g := gb111) (o := .cells #[.int .i64 t107, .int .i64 t108, .string t109] 32 (0, 0)) (by (with_reducible repeat (first | refine blk_drewN ?_ _ | refine blk_drew ?_ | refine blk_alloc ?_ _)); exact BK111.out)) : gb133 ≠ gb111)); have n8_ := Aside0.mk ((by rw [hg]; exact Nat.ne_of_lt (blk_lt (g := gb122) (o := .cells #[.int .i64 t118, .int .i64 t119, .string t120] 32 (0, 0)) (by (with_reducible repeat (first | refine blk_drewN ?_ _ | refine blk_drew ?_ | refine blk_alloc ?_ _)); exact BK122.out)) : gb122 ≠ gb133)); have n9_ := Aside0.mk ((by rw [hg]; exact Nat.ne_of_gt (blk_lt (g := gb122) (o := .cells #[.int .i64 t118, .int .i64 t119, .string t120] 32 (0, 0)) (by (with_reducible repeat (first | refine blk_drewN ?_ _ | refine blk_drew ?_ | refine blk_alloc ?_ _)); exact BK122.out)) : gb133 ≠ gb122)); clear BK111; clear BK122; clear HB; have BK111 := n0_; have BK122 := n1_; have HB := n2_; have BK133 := n3_; have GW133 := n4_; have GE133 := n5_; have NB111_133 := n6_; have NB133_111 := n7_; have NB122_133 := n8_; have NB133_122 := n9_; clear n0_ n1_ n2_ n3_ n4_ n5_ n6_ n7_ n8_ n9_; clear hb hbox hg; have hnb38 := NB133_111.out; have hnc38 := NB111_133.out; have hnb39 := NB133_122.out; have hnc39 := NB122_133.out; have hcz40_0 : w37.cell? ⟨gb133, 0, none⟩ = some (.int .i64 0) := (blk_cell BK133.out 0).trans rfl; have hcz40_1 : w37.cell? ⟨gb133, 1, none⟩ = some (.int .i64 0) := (blk_cell BK133.out 1).trans rfl; have hcz40_2 : w37.cell? ⟨gb133, 2, none⟩ = some (.string (⟨#[]⟩ : ByteArray)) := (blk_cell BK133.out 2).trans rfl; have hfz40_0 := blk_frozen BK133.out 0; have hfz40_1 := blk_frozen BK133.out 1; have hfz40_2 := blk_frozen BK133.out 2))
              have n0_ : Aside0 ((((w37.setCell ⟨gb133, 0, none⟩ (.int .i64 t129)).setCell ⟨gb133, 1, none⟩ (.int .i64 t130)).setCell ⟨gb133, 2, none⟩ (.string t131)).heap[gb111]? = some (.cells #[.int .i64 t107, .int .i64 t108, .string t109] 32 (0, 0))) := ⟨by (with_reducible repeat (first | refine blk_drewN ?_ _ | refine blk_drew ?_ | refine blk_alloc ?_ _)); refine blk_far ?_ NB111_133.out _; (with_reducible repeat (first | refine blk_drewN ?_ _ | refine blk_drew ?_ | refine blk_alloc ?_ _)); refine blk_far ?_ NB111_133.out _; (with_reducible repeat (first | refine blk_drewN ?_ _ | refine blk_drew ?_ | refine blk_alloc ?_ _)); refine blk_far ?_ NB111_133.out _; (with_reducible repeat (first | refine blk_drewN ?_ _ | refine blk_drew ?_ | refine blk_alloc ?_ _)); exact BK111.out⟩
              have n1_ : Aside0 ((((w37.setCell ⟨gb133, 0, none⟩ (.int .i64 t129)).setCell ⟨gb133, 1, none⟩ (.int .i64 t130)).setCell ⟨gb133, 2, none⟩ (.string t131)).heap[gb122]? = some (.cells #[.int .i64 t118, .int .i64 t119, .string t120] 32 (0, 0))) := ⟨by (with_reducible repeat (first | refine blk_drewN ?_ _ | refine blk_drew ?_ | refine blk_alloc ?_ _)); refine blk_far ?_ NB122_133.out _; (with_reducible repeat (first | refine blk_drewN ?_ _ | refine blk_drew ?_ | refine blk_alloc ?_ _)); refine blk_far ?_ NB122_133.out _; (with_reducible repeat (first | refine blk_drewN ?_ _ | refine blk_drew ?_ | refine blk_alloc ?_ _)); refine blk_far ?_ NB122_133.out _; (with_reducible repeat (first | refine blk_drewN ?_ _ | refine blk_drew ?_ | refine blk_alloc ?_ _)); exact BK122.out⟩
              have n2_ : Aside0 ((((w37.setCell ⟨gb133, 0, none⟩ (.int .i64 t129)).setCell ⟨gb133, 1, none⟩ (.int .i64 t130)).setCell ⟨gb133, 2, none⟩ (.string t131)).heap[gb133]? = some (.cells #[.int .i64 t129, .int .i64 t130, .string t131] 32 (0, 0))) := ⟨by (with_reducible repeat (first | refine blk_drewN ?_ _ | refine blk_drew ?_ | refine blk_alloc ?_ _)); refine blk_put (cs := #[.int .i64 t129, .int .i64 t130, .string (⟨#[]⟩ : ByteArray)]) ?_ 2 _ rfl; (with_reducible repeat (first | refine blk_drewN ?_ _ | refine blk_drew ?_ | refine blk_alloc ?_ _)); refine blk_put (cs := #[.int .i64 t129, .int .i64 0, .string (⟨#[]⟩ : ByteArray)]) ?_ 1 _ rfl; (with_reducible repeat (first | refine blk_drewN ?_ _ | refine blk_drew ?_ | refine blk_alloc ?_ _)); refine blk_put (cs := #[.int .i64 0, .int .i64 0, .string (⟨#[]⟩ : ByteArray)]) ?_ 0 _ rfl; (with_reducible repeat (first | refine blk_drewN ?_ _ | refine blk_drew ?_ | refine blk_alloc ?_ _)); exact BK133.out⟩
              have n3_ : Aside0 (Below w.heap.size w (((w37.setCell ⟨gb133, 0, none⟩ (.int .i64 t129)).setCell ⟨gb133, 1, none⟩ (.int .i64 t130)).setCell ⟨gb133, 2, none⟩ (.string t131))) := ⟨by repeat (first | (with_reducible first | exact HB.out | apply below_alloc | apply pw_below_drewN | apply below_drew1 | refine below_set ?_ GE111.out | refine below_set ?_ GE122.out | refine below_set ?_ GE133.out) | exact HB.out)⟩
              (try clear BK111)
              (try clear BK122)
              (try clear BK133)
              (try clear HB)
              generalize (((w37.setCell ⟨gb133, 0, none⟩ (.int .i64 t129)).setCell ⟨gb133, 1, none⟩ (.int .i64 t130)).setCell ⟨gb133, 2, none⟩ (.string t131)) = w41 at n0_ n1_ n2_ n3_ ⊢
              have BK111 := n0_
              have BK122 := n1_
              have BK133 := n2_
              have HB := n3_
              clear n0_ n1_ n2_ n3_
              have n0_ := Aside0.mk (blk_drew BK111.out)
              have n1_ := Aside0.mk (blk_drew BK122.out)
              have n2_ := Aside0.mk (blk_drew BK133.out)
              have n3_ := Aside0.mk (below_drew1 HB.out)
              clear BK111
              clear BK122
              clear BK133
              clear HB
              have BK111 := n0_
              have BK122 := n1_
              have BK133 := n2_
              have HB := n3_
              clear n0_ n1_ n2_ n3_
              refine start_ (n := 31) (S := fun w' => w'.cell? ⟨gb111, 0, none⟩ = some (.int .i64 t107) ∧ w'.cell? ⟨gb111, 1, none⟩ = some (.int .i64 t108) ∧ w'.cell? ⟨gb111, 2, none⟩ = some (.string t109) ∧ w'.cell? ⟨gb122, 0, none⟩ = some (.int .i64 t118) ∧ w'.cell? ⟨gb122, 1, none⟩ = some (.int .i64 t119) ∧ w'.cell? ⟨gb122, 2, none⟩ = some (.string t120)) (ds := []) #[false, false, false, false, false, false, false, false, false, false, false, false, false, false, false, false, false, false, false, false, false, false, false, false, false, false, false, false, false, false, false] (by kernel_rfl) rfl rfl ⟨(blk_cell BK111.out 0).trans rfl, (blk_cell BK111.out 1).trans rfl, (blk_cell BK111.out 2).trans rfl, (blk_cell BK122.out 0).trans rfl, (blk_cell BK122.out 1).trans rfl, (blk_cell BK122.out 2).trans rfl⟩ (fun hHeld => ?_); refine with_tabW selkielaw11_alive.tab4 selkielaw11_alive.bits4 (fun HT_ HW_ => ?_)
              generalize w41.drew = w42 at BK111 BK122 BK133 HB hHeld ⊢
              refine take_ (i := 0) (N := some 25) (v := ?_) (a' := ?_) #[true, false, false, false, false, false, false, false, false, false, false, false, false, false, false, false, false, false, false, false, false, false, false, false, false, false, false, false, false, false, false] rfl rfl (take_ofW HT_.out HW_.out (by kernel_rfl)) (fun _ _ _ h => h) (Or.inl ⟨by rfl, ?_⟩) hHeld ?_ ?_
              rotate_left
              · rintro w' ⟨s0, s1, s2, s3, s4, s5⟩
                go_simp
                with_reducible rfl
              rotate_left
              · simp only [Act.put, List.setIfInBounds_toArray, List.set_cons_zero, List.set_cons_succ, i64_w, i32_w]
                rfl
              refine one_ (i := 1) (N := some 26) #[true, true, false, false, false, false, false, false, false, false, false, false, false, false, false, false, false, false, false, false, false, false, false, false, false, false, false, false, false, false, false] rfl rfl (one_of HT_.out (by kernel_rfl)) (by decide) (fun K hK => ?_)
              refine goes_ Tryd.func53 (by kernel_rfl) rfl #[.int .i64 11] (by rfl) rfl rfl (by (try simp only [List.map_toArray, List.map_cons, List.map_nil]); first | done | rfl | (simp only [List.length_drop, List.length_take]; rfl)) ?_
              with_reducible refine (value_OfInt.calls 11 t134 t135 t136 _ A10.out).mono ?_
              rintro e w43 ⟨rfl, hb⟩
              refine ⟨_, rfl, ?_⟩
              have n0_ := Aside0.mk (blk_below (g := gb111) (o := .cells #[.int .i64 t107, .int .i64 t108, .string t109] 32 (0, 0)) (by (with_reducible repeat (first | refine blk_drewN ?_ _ | refine blk_drew ?_ | refine blk_alloc ?_ _)); exact BK111.out) hb)
              have n1_ := Aside0.mk (blk_below (g := gb122) (o := .cells #[.int .i64 t118, .int .i64 t119, .string t120] 32 (0, 0)) (by (with_reducible repeat (first | refine blk_drewN ?_ _ | refine blk_drew ?_ | refine blk_alloc ?_ _)); exact BK122.out) hb)
              have n2_ := Aside0.mk (blk_below (g := gb133) (o := .cells #[.int .i64 t129, .int .i64 t130, .string t131] 32 (0, 0)) (by (with_reducible repeat (first | refine blk_drewN ?_ _ | refine blk_drew ?_ | refine blk_alloc ?_ _)); exact BK133.out) hb)
              have n3_ := Aside0.mk (below_step (by repeat (first | (with_reducible first | exact HB.out | apply below_alloc | apply pw_below_drewN | apply below_drew1 | refine below_set ?_ GE111.out | refine below_set ?_ GE122.out | refine below_set ?_ GE133.out) | exact HB.out)) hb)
              clear BK111
              clear BK122
              clear BK133
              clear HB
              have BK111 := n0_
              have BK122 := n1_
              have BK133 := n2_
              have HB := n3_
              clear n0_ n1_ n2_ n3_
              (try clear hb)
              (try clear hb2)
              (try clear hk)
              (try clear hi)
              refine hK.out _ _ ⟨(blk_cell BK111.out 0).trans rfl, (blk_cell BK111.out 1).trans rfl, (blk_cell BK111.out 2).trans rfl, (blk_cell BK122.out 0).trans rfl, (blk_cell BK122.out 1).trans rfl, (blk_cell BK122.out 2).trans rfl⟩ (fun hHeld => ?_)
              clear hK K
              refine norm_ (a' := ?_) ?_ ?_
              rotate_left
              · show Act.put _ (some 26) _ = _
                simp only [Act.put, List.setIfInBounds_toArray, List.set_cons_zero, List.set_cons_succ, i64_w, i32_w]
                rfl
              refine pure_ (i := 2) (N := some 27) (v := ?_) (a' := ?_) #[true, true, true, false, false, false, false, false, false, false, false, false, false, false, false, false, false, false, false, false, false, false, false, false, false, false, false, false, false, false, false] rfl rfl (any_of HT_.out (by kernel_rfl)) (fun _ _ _ h => h) (Or.inl ⟨by rfl, ?_⟩) ?_ ?_
              rotate_left
              · intro w'
                go_simp
                with_reducible rfl
              rotate_left
              · simp only [Act.put, List.setIfInBounds_toArray, List.set_cons_zero, List.set_cons_succ, i64_w, i32_w]
                rfl
              refine pure_ (i := 3) (N := some 28) (v := ?_) (a' := ?_) #[true, true, true, true, false, false, false, false, false, false, false, false, false, false, false, false, false, false, false, false, false, false, false, false, false, false, false, false, false, false, false] rfl rfl (any_of HT_.out (by kernel_rfl)) (fun _ _ _ h => h) (Or.inl ⟨by rfl, ?_⟩) ?_ ?_
              rotate_left
              · intro w'
                go_simp
                with_reducible rfl
              rotate_left
              · simp only [Act.put, List.setIfInBounds_toArray, List.set_cons_zero, List.set_cons_succ, i64_w, i32_w]
                rfl
              refine pure_ (i := 4) (N := some 29) (v := ?_) (a' := ?_) #[true, true, true, true, true, false, false, false, false, false, false, false, false, false, false, false, false, false, false, false, false, false, false, false, false, false, false, false, false, false, false] rfl rfl (any_of HT_.out (by kernel_rfl)) (fun _ _ _ h => h) (Or.inl ⟨by rfl, ?_⟩) ?_ ?_
              rotate_left
              · intro w'
                go_simp
                with_reducible rfl
              rotate_left
              · simp only [Act.put, List.setIfInBounds_toArray, List.set_cons_zero, List.set_cons_succ, i64_w, i32_w]
                rfl
              refine pure_ (i := 5) (N := some 30) (v := ?_) (a' := ?_) #[true, true, true, true, true, true, false, false, false, false, false, false, false, false, false, false, false, false, false, false, false, false, false, false, false, false, false, false, false, false, false] rfl rfl (any_of HT_.out (by kernel_rfl)) (fun _ _ _ h => h) (Or.inl ⟨by rfl, ?_⟩) ?_ ?_
              rotate_left
              · intro w'
                go_simp
                with_reducible rfl
              rotate_left
              · simp only [Act.put, List.setIfInBounds_toArray, List.set_cons_zero, List.set_cons_succ, i64_w, i32_w]
                rfl
              refine pure_ (i := 6) (N := some 31) (v := ?_) (a' := ?_) #[true, true, true, true, true, true, true, false, false, false, false, false, false, false, false, false, false, false, false, false, false, false, false, false, false, false, false, false, false, false, false] rfl rfl (any_of HT_.out (by kernel_rfl)) (fun _ _ _ h => h) (Or.inl ⟨by rfl, ?_⟩) ?_ ?_
              rotate_left
              · intro w'
                go_simp
                with_reducible rfl
              rotate_left
              · simp only [Act.put, List.setIfInBounds_toArray, List.set_cons_zero, List.set_cons_succ, i64_w, i32_w]
                rfl
              refine pure_ (i := 7) (N := some 32) (v := ?_) (a' := ?_) #[true, true, true, true, true, true, true, true, false, false, false, false, false, false, false, false, false, false, false, false, false, false, false, false, false, false, false, false, false, false, false] rfl rfl (any_of HT_.out (by kernel_rfl)) (fun _ _ _ h => h) (Or.inl ⟨by rfl, ?_⟩) ?_ ?_
              rotate_left
              · intro w'
                go_simp
                with_reducible rfl
              rotate_left
              · simp only [Act.put, List.setIfInBounds_toArray, List.set_cons_zero, List.set_cons_succ, i64_w, i32_w]
                rfl
              refine take_ (i := 8) (N := some 33) (v := ?_) (a' := ?_) #[true, true, true, true, true, true, true, true, true, false, false, false, false, false, false, false, false, false, false, false, false, false, false, false, false, false, false, false, false, false, false] rfl rfl (take_ofW HT_.out HW_.out (by kernel_rfl)) (fun _ _ _ h => h) (Or.inl ⟨by rfl, ?_⟩) hHeld ?_ ?_
              rotate_left
              · rintro w' ⟨s0, s1, s2, s3, s4, s5⟩
                go_simp
                with_reducible rfl
              rotate_left
              · simp only [Act.put, List.setIfInBounds_toArray, List.set_cons_zero, List.set_cons_succ, i64_w, i32_w]
                rfl
              refine one_ (i := 9) (N := some 34) #[true, true, true, true, true, true, true, true, true, true, false, false, false, false, false, false, false, false, false, false, false, false, false, false, false, false, false, false, false, false, false] rfl rfl (one_of HT_.out (by kernel_rfl)) (by decide) (fun K hK => ?_)
              refine goes_ Tryd.func55 (by kernel_rfl) rfl #[.string (⟨#[49, 97]⟩ : ByteArray)] (by rfl) rfl rfl (by (try simp only [List.map_toArray, List.map_cons, List.map_nil]); first | done | rfl | (simp only [List.length_drop, List.length_take]; rfl)) ?_
              with_reducible refine (value_OfStr.calls (⟨#[49, 97]⟩ : ByteArray) t137 t138 t139 _ A13.out).mono ?_
              rintro e w44 ⟨rfl, hb⟩
              refine ⟨_, rfl, ?_⟩
              have n0_ := Aside0.mk (blk_below (g := gb111) (o := .cells #[.int .i64 t107, .int .i64 t108, .string t109] 32 (0, 0)) (by (with_reducible repeat (first | refine blk_drewN ?_ _ | refine blk_drew ?_ | refine blk_alloc ?_ _)); exact BK111.out) hb)
              have n1_ := Aside0.mk (blk_below (g := gb122) (o := .cells #[.int .i64 t118, .int .i64 t119, .string t120] 32 (0, 0)) (by (with_reducible repeat (first | refine blk_drewN ?_ _ | refine blk_drew ?_ | refine blk_alloc ?_ _)); exact BK122.out) hb)
              have n2_ := Aside0.mk (blk_below (g := gb133) (o := .cells #[.int .i64 t129, .int .i64 t130, .string t131] 32 (0, 0)) (by (with_reducible repeat (first | refine blk_drewN ?_ _ | refine blk_drew ?_ | refine blk_alloc ?_ _)); exact BK133.out) hb)
              have n3_ := Aside0.mk (below_step (by repeat (first | (with_reducible first | exact HB.out | apply below_alloc | apply pw_below_drewN | apply below_drew1 | refine below_set ?_ GE111.out | refine below_set ?_ GE122.out | refine below_set ?_ GE133.out) | exact HB.out)) hb)
              clear BK111
              clear BK122
              clear BK133
              clear HB
              have BK111 := n0_
              have BK122 := n1_
              have BK133 := n2_
              have HB := n3_
              clear n0_ n1_ n2_ n3_
              (try clear hb)
              (try clear hb2)
              (try clear hk)
              (try clear hi)
              refine hK.out _ _ ⟨(blk_cell BK111.out 0).trans rfl, (blk_cell BK111.out 1).trans rfl, (blk_cell BK111.out 2).trans rfl, (blk_cell BK122.out 0).trans rfl, (blk_cell BK122.out 1).trans rfl, (blk_cell BK122.out 2).trans rfl⟩ (fun hHeld => ?_)
              clear hK K
              refine norm_ (a' := ?_) ?_ ?_
              rotate_left
              · show Act.put _ (some 34) _ = _
                simp only [Act.put, List.setIfInBounds_toArray, List.set_cons_zero, List.set_cons_succ, i64_w, i32_w]
                rfl
              refine pure_ (i := 10) (N := some 35) (v := ?_) (a' := ?_) #[true, true, true, true, true, true, true, true, true, true, true, false, false, false, false, false, false, false, false, false, false, false, false, false, false, false, false, false, false, false, false] rfl rfl (any_of HT_.out (by kernel_rfl)) (fun _ _ _ h => h) (Or.inl ⟨by rfl, ?_⟩) ?_ ?_
              rotate_left
              · intro w'
                go_simp
                with_reducible rfl
              rotate_left
              · simp only [Act.put, List.setIfInBounds_toArray, List.set_cons_zero, List.set_cons_succ, i64_w, i32_w]
                rfl
              refine pure_ (i := 11) (N := some 36) (v := ?_) (a' := ?_) #[true, true, true, true, true, true, true, true, true, true, true, true, false, false, false, false, false, false, false, false, false, false, false, false, false, false, false, false, false, false, false] rfl rfl (any_of HT_.out (by kernel_rfl)) (fun _ _ _ h => h) (Or.inl ⟨by rfl, ?_⟩) ?_ ?_
              rotate_left
              · intro w'
                go_simp
                with_reducible rfl
              rotate_left
              · simp only [Act.put, List.setIfInBounds_toArray, List.set_cons_zero, List.set_cons_succ, i64_w, i32_w]
                rfl
              refine pure_ (i := 12) (N := some 37) (v := ?_) (a' := ?_) #[true, true, true, true, true, true, true, true, true, true, true, true, true, false, false, false, false, false, false, false, false, false, false, false, false, false, false, false, false, false, false] rfl rfl (any_of HT_.out (by kernel_rfl)) (fun _ _ _ h => h) (Or.inl ⟨by rfl, ?_⟩) ?_ ?_
              rotate_left
              · intro w'
                go_simp
                with_reducible rfl
              rotate_left
              · simp only [Act.put, List.setIfInBounds_toArray, List.set_cons_zero, List.set_cons_succ, i64_w, i32_w]
                rfl
              refine pure_ (i := 13) (N := some 38) (v := ?_) (a' := ?_) #[true, true, true, true, true, true, true, true, true, true, true, true, true, true, false, false, false, false, false, false, false, false, false, false, false, false, false, false, false, false, false] rfl rfl (any_of HT_.out (by kernel_rfl)) (fun _ _ _ h => h) (Or.inl ⟨by rfl, ?_⟩) ?_ ?_
              rotate_left
              · intro w'
                go_simp
                with_reducible rfl
              rotate_left
              · simp only [Act.put, List.setIfInBounds_toArray, List.set_cons_zero, List.set_cons_succ, i64_w, i32_w]
                rfl
              refine pure_ (i := 14) (N := some 39) (v := ?_) (a' := ?_) #[true, true, true, true, true, true, true, true, true, true, true, true, true, true, true, false, false, false, false, false, false, false, false, false, false, false, false, false, false, false, false] rfl rfl (any_of HT_.out (by kernel_rfl)) (fun _ _ _ h => h) (Or.inl ⟨by rfl, ?_⟩) ?_ ?_
              rotate_left
              · intro w'
                go_simp
                with_reducible rfl
              rotate_left
              · simp only [Act.put, List.setIfInBounds_toArray, List.set_cons_zero, List.set_cons_succ, i64_w, i32_w]
                rfl
              refine pure_ (i := 15) (N := some 40) (v := ?_) (a' := ?_) #[true, true, true, true, true, true, true, true, true, true, true, true, true, true, true, true, false, false, false, false, false, false, false, false, false, false, false, false, false, false, false] rfl rfl (any_of HT_.out (by kernel_rfl)) (fun _ _ _ h => h) (Or.inl ⟨by rfl, ?_⟩) ?_ ?_
              rotate_left
              · intro w'
                go_simp
                with_reducible rfl
              rotate_left
              · simp only [Act.put, List.setIfInBounds_toArray, List.set_cons_zero, List.set_cons_succ, i64_w, i32_w]
                rfl
              refine pure_ (i := 16) (N := some 41) (v := ?_) (a' := ?_) #[true, true, true, true, true, true, true, true, true, true, true, true, true, true, true, true, true, false, false, false, false, false, false, false, false, false, false, false, false, false, false] rfl rfl (any_of HT_.out (by kernel_rfl)) (fun _ _ _ h => h) (Or.inl ⟨by rfl, ?_⟩) ?_ ?_
              rotate_left
              · intro w'
                go_simp
                with_reducible rfl
              rotate_left
              · simp only [Act.put, List.setIfInBounds_toArray, List.set_cons_zero, List.set_cons_succ, i64_w, i32_w]
                rfl
              refine pure_ (i := 17) (N := some 42) (v := ?_) (a' := ?_) #[true, true, true, true, true, true, true, true, true, true, true, true, true, true, true, true, true, true, false, false, false, false, false, false, false, false, false, false, false, false, false] rfl rfl (any_of HT_.out (by kernel_rfl)) (fun _ _ _ h => h) (Or.inl ⟨by rfl, ?_⟩) ?_ ?_
              rotate_left
              · intro w'
                go_simp
                with_reducible rfl
              rotate_left
              · simp only [Act.put, List.setIfInBounds_toArray, List.set_cons_zero, List.set_cons_succ, i64_w, i32_w]
                rfl
              refine pure_ (i := 18) (N := some 43) (v := ?_) (a' := ?_) #[true, true, true, true, true, true, true, true, true, true, true, true, true, true, true, true, true, true, true, false, false, false, false, false, false, false, false, false, false, false, false] rfl rfl (any_of HT_.out (by kernel_rfl)) (fun _ _ _ h => h) (Or.inl ⟨by rfl, ?_⟩) ?_ ?_
              rotate_left
              · intro w'
                go_simp
                with_reducible rfl
              rotate_left
              · simp only [Act.put, List.setIfInBounds_toArray, List.set_cons_zero, List.set_cons_succ, i64_w, i32_w]
                rfl
              refine pure_ (i := 19) (N := some 44) (v := ?_) (a' := ?_) #[true, true, true, true, true, true, true, true, true, true, true, true, true, true, true, true, true, true, true, true, false, false, false, false, false, false, false, false, false, false, false] rfl rfl (any_of HT_.out (by kernel_rfl)) (fun _ _ _ h => h) (Or.inl ⟨by rfl, ?_⟩) ?_ ?_
              rotate_left
              · intro w'
                go_simp
                with_reducible rfl
              rotate_left
              · simp only [Act.put, List.setIfInBounds_toArray, List.set_cons_zero, List.set_cons_succ, i64_w, i32_w]
                rfl
              refine pure_ (i := 20) (N := some 45) (v := ?_) (a' := ?_) #[true, true, true, true, true, true, true, true, true, true, true, true, true, true, true, true, true, true, true, true, true, false, false, false, false, false, false, false, false, false, false] rfl rfl (any_of HT_.out (by kernel_rfl)) (fun _ _ _ h => h) (Or.inl ⟨by rfl, ?_⟩) ?_ ?_
              rotate_left
              · intro w'
                go_simp
                with_reducible rfl
              rotate_left
              · simp only [Act.put, List.setIfInBounds_toArray, List.set_cons_zero, List.set_cons_succ, i64_w, i32_w]
                rfl
              refine one_ (i := 21) (N := some 46) #[true, true, true, true, true, true, true, true, true, true, true, true, true, true, true, true, true, true, true, true, true, true, false, false, false, false, false, false, false, false, false] rfl rfl (one_of HT_.out (by kernel_rfl)) (by decide) (fun K hK => ?_)
              refine goes_ Tryd.func53 (by kernel_rfl) rfl #[.int .i64 1] (by rfl) rfl rfl (by (try simp only [List.map_toArray, List.map_cons, List.map_nil]); first | done | rfl | (simp only [List.length_drop, List.length_take]; rfl)) ?_
              with_reducible refine (value_OfInt.calls 1 t140 t141 t142 _ A17.out).mono ?_
              rintro e w45 ⟨rfl, hb⟩
              refine ⟨_, rfl, ?_⟩
              have n0_ := Aside0.mk (blk_below (g := gb111) (o := .cells #[.int .i64 t107, .int .i64 t108, .string t109] 32 (0, 0)) (by (with_reducible repeat (first | refine blk_drewN ?_ _ | refine blk_drew ?_ | refine blk_alloc ?_ _)); exact BK111.out) hb)
              have n1_ := Aside0.mk (blk_below (g := gb122) (o := .cells #[.int .i64 t118, .int .i64 t119, .string t120] 32 (0, 0)) (by (with_reducible repeat (first | refine blk_drewN ?_ _ | refine blk_drew ?_ | refine blk_alloc ?_ _)); exact BK122.out) hb)
              have n2_ := Aside0.mk (blk_below (g := gb133) (o := .cells #[.int .i64 t129, .int .i64 t130, .string t131] 32 (0, 0)) (by (with_reducible repeat (first | refine blk_drewN ?_ _ | refine blk_drew ?_ | refine blk_alloc ?_ _)); exact BK133.out) hb)
              have n3_ := Aside0.mk (below_step (by repeat (first | (with_reducible first | exact HB.out | apply below_alloc | apply pw_below_drewN | apply below_drew1 | refine below_set ?_ GE111.out | refine below_set ?_ GE122.out | refine below_set ?_ GE133.out) | exact HB.out)) hb)
              clear BK111
              clear BK122
              clear BK133
              clear HB
              have BK111 := n0_
              have BK122 := n1_
              have BK133 := n2_
              have HB := n3_
              clear n0_ n1_ n2_ n3_
              (try clear hb)
              (try clear hb2)
              (try clear hk)
              (try clear hi)
              refine hK.out _ _ ⟨(blk_cell BK111.out 0).trans rfl, (blk_cell BK111.out 1).trans rfl, (blk_cell BK111.out 2).trans rfl, (blk_cell BK122.out 0).trans rfl, (blk_cell BK122.out 1).trans rfl, (blk_cell BK122.out 2).trans rfl⟩ (fun hHeld => ?_)
              clear hK K
              refine norm_ (a' := ?_) ?_ ?_
              rotate_left
              · show Act.put _ (some 46) _ = _
                simp only [Act.put, List.setIfInBounds_toArray, List.set_cons_zero, List.set_cons_succ, i64_w, i32_w]
                rfl
              refine one_ (i := 22) (N := some 47) #[true, true, true, true, true, true, true, true, true, true, true, true, true, true, true, true, true, true, true, true, true, true, true, false, false, false, false, false, false, false, false] rfl rfl (one_of HT_.out (by kernel_rfl)) (by decide) (fun K hK => ?_)
              refine goes_ Tryd.func55 (by kernel_rfl) rfl #[.string (⟨#[97]⟩ : ByteArray)] (by rfl) rfl rfl (by (try simp only [List.map_toArray, List.map_cons, List.map_nil]); first | done | rfl | (simp only [List.length_drop, List.length_take]; rfl)) ?_
              with_reducible refine (value_OfStr.calls (⟨#[97]⟩ : ByteArray) t143 t144 t145 _ A18.out).mono ?_
              rintro e w46 ⟨rfl, hb⟩
              refine ⟨_, rfl, ?_⟩
              have n0_ := Aside0.mk (blk_below (g := gb111) (o := .cells #[.int .i64 t107, .int .i64 t108, .string t109] 32 (0, 0)) (by (with_reducible repeat (first | refine blk_drewN ?_ _ | refine blk_drew ?_ | refine blk_alloc ?_ _)); exact BK111.out) hb)
              have n1_ := Aside0.mk (blk_below (g := gb122) (o := .cells #[.int .i64 t118, .int .i64 t119, .string t120] 32 (0, 0)) (by (with_reducible repeat (first | refine blk_drewN ?_ _ | refine blk_drew ?_ | refine blk_alloc ?_ _)); exact BK122.out) hb)
              have n2_ := Aside0.mk (blk_below (g := gb133) (o := .cells #[.int .i64 t129, .int .i64 t130, .string t131] 32 (0, 0)) (by (with_reducible repeat (first | refine blk_drewN ?_ _ | refine blk_drew ?_ | refine blk_alloc ?_ _)); exact BK133.out) hb)
              have n3_ := Aside0.mk (below_step (by repeat (first | (with_reducible first | exact HB.out | apply below_alloc | apply pw_below_drewN | apply below_drew1 | refine below_set ?_ GE111.out | refine below_set ?_ GE122.out | refine below_set ?_ GE133.out) | exact HB.out)) hb)
              clear BK111
              clear BK122
              clear BK133
              clear HB
              have BK111 := n0_
              have BK122 := n1_
              have BK133 := n2_
              have HB := n3_
              clear n0_ n1_ n2_ n3_
              (try clear hb)
              (try clear hb2)
              (try clear hk)
              (try clear hi)
              refine hK.out _ _ ⟨(blk_cell BK111.out 0).trans rfl, (blk_cell BK111.out 1).trans rfl, (blk_cell BK111.out 2).trans rfl, (blk_cell BK122.out 0).trans rfl, (blk_cell BK122.out 1).trans rfl, (blk_cell BK122.out 2).trans rfl⟩ (fun hHeld => ?_)
              clear hK K
              refine norm_ (a' := ?_) ?_ ?_
              rotate_left
              · show Act.put _ (some 47) _ = _
                simp only [Act.put, List.setIfInBounds_toArray, List.set_cons_zero, List.set_cons_succ, i64_w, i32_w]
                rfl
              refine one_ (i := 23) (N := some 48) #[true, true, true, true, true, true, true, true, true, true, true, true, true, true, true, true, true, true, true, true, true, true, true, true, false, false, false, false, false, false, false] rfl rfl (one_of HT_.out (by kernel_rfl)) (by decide) (fun K hK => ?_)
              refine goes_ Tryd.func51 (by kernel_rfl) rfl #[.int .i64 14, .agg #[.int .i64 t140, .int .i64 t141, .string t142], .agg #[.int .i64 t143, .int .i64 t144, .string t145]] (by rfl) rfl rfl (by (try simp only [List.map_toArray, List.map_cons, List.map_nil]); first | done | rfl | (simp only [List.length_drop, List.length_take]; rfl)) ?_
              with_reducible refine (oper_Blame.calls 14 t140 t141 t142 t143 t144 t145 t146 _ A19.out).mono ?_
              rintro e w47 ⟨rfl, hb⟩
              refine ⟨_, rfl, ?_⟩
              have n0_ := Aside0.mk (blk_below (g := gb111) (o := .cells #[.int .i64 t107, .int .i64 t108, .string t109] 32 (0, 0)) (by (with_reducible repeat (first | refine blk_drewN ?_ _ | refine blk_drew ?_ | refine blk_alloc ?_ _)); exact BK111.out) hb)
              have n1_ := Aside0.mk (blk_below (g := gb122) (o := .cells #[.int .i64 t118, .int .i64 t119, .string t120] 32 (0, 0)) (by (with_reducible repeat (first | refine blk_drewN ?_ _ | refine blk_drew ?_ | refine blk_alloc ?_ _)); exact BK122.out) hb)
              have n2_ := Aside0.mk (blk_below (g := gb133) (o := .cells #[.int .i64 t129, .int .i64 t130, .string t131] 32 (0, 0)) (by (with_reducible repeat (first | refine blk_drewN ?_ _ | refine blk_drew ?_ | refine blk_alloc ?_ _)); exact BK133.out) hb)
              have n3_ := Aside0.mk (below_step (by repeat (first | (with_reducible first | exact HB.out | apply below_alloc | apply pw_below_drewN | apply below_drew1 | refine below_set ?_ GE111.out | refine below_set ?_ GE122.out | refine below_set ?_ GE133.out) | exact HB.out)) hb)
              clear BK111
              clear BK122
              clear BK133
              clear HB
              have BK111 := n0_
              have BK122 := n1_
              have BK133 := n2_
              have HB := n3_
              clear n0_ n1_ n2_ n3_
              (try clear hb)
              (try clear hb2)
              (try clear hk)
              (try clear hi)
              refine hK.out _ _ ⟨(blk_cell BK111.out 0).trans rfl, (blk_cell BK111.out 1).trans rfl, (blk_cell BK111.out 2).trans rfl, (blk_cell BK122.out 0).trans rfl, (blk_cell BK122.out 1).trans rfl, (blk_cell BK122.out 2).trans rfl⟩ (fun hHeld => ?_)
              clear hK K
              refine norm_ (a' := ?_) ?_ ?_
              rotate_left
              · show Act.put _ (some 48) _ = _
                simp only [Act.put, List.setIfInBounds_toArray, List.set_cons_zero, List.set_cons_succ, i64_w, i32_w]
                rfl
              refine pure_ (i := 24) (N := some 49) (v := ?_) (a' := ?_) #[true, true, true, true, true, true, true, true, true, true, true, true, true, true, true, true, true, true, true, true, true, true, true, true, true, false, false, false, false, false, false] rfl rfl (any_of HT_.out (by kernel_rfl)) (fun _ _ _ h => h) (Or.inl ⟨by rfl, ?_⟩) ?_ ?_
              rotate_left
              · intro w'
                go_simp
                with_reducible rfl
              rotate_left
              · simp only [Act.put, List.setIfInBounds_toArray, List.set_cons_zero, List.set_cons_succ, i64_w, i32_w]
                rfl
              refine pure_ (i := 25) (N := some 50) (v := ?_) (a' := ?_) #[true, true, true, true, true, true, true, true, true, true, true, true, true, true, true, true, true, true, true, true, true, true, true, true, true, true, false, false, false, false, false] rfl rfl (any_of HT_.out (by kernel_rfl)) (fun _ _ _ h => h) (Or.inl ⟨by rfl, ?_⟩) ?_ ?_
              rotate_left
              · intro w'
                go_simp
                with_reducible rfl
              rotate_left
              · simp only [Act.put, List.setIfInBounds_toArray, List.set_cons_zero, List.set_cons_succ, i64_w, i32_w]
                rfl
              refine pure_ (i := 26) (N := some 51) (v := ?_) (a' := ?_) #[true, true, true, true, true, true, true, true, true, true, true, true, true, true, true, true, true, true, true, true, true, true, true, true, true, true, true, false, false, false, false] rfl rfl (any_of HT_.out (by kernel_rfl)) (fun _ _ _ h => h) (Or.inl ⟨by rfl, ?_⟩) ?_ ?_
              rotate_left
              · intro w'
                go_simp
                with_reducible rfl
              rotate_left
              · simp only [Act.put, List.setIfInBounds_toArray, List.set_cons_zero, List.set_cons_succ, i64_w, i32_w]
                rfl
              refine one_ (i := 27) (N := some 52) #[true, true, true, true, true, true, true, true, true, true, true, true, true, true, true, true, true, true, true, true, true, true, true, true, true, true, true, true, false, false, false] rfl rfl (one_of HT_.out (by kernel_rfl)) (by decide) (fun K hK => ?_)
              refine goes_ Tryd.func53 (by kernel_rfl) rfl #[.int .i64 0] (by rfl) rfl rfl (by (try simp only [List.map_toArray, List.map_cons, List.map_nil]); first | done | rfl | (simp only [List.length_drop, List.length_take]; rfl)) ?_
              with_reducible refine (value_OfInt.calls 0 t147 t148 t149 _ A21.out).mono ?_
              rintro e w48 ⟨rfl, hb⟩
              refine ⟨_, rfl, ?_⟩
              have n0_ := Aside0.mk (blk_below (g := gb111) (o := .cells #[.int .i64 t107, .int .i64 t108, .string t109] 32 (0, 0)) (by (with_reducible repeat (first | refine blk_drewN ?_ _ | refine blk_drew ?_ | refine blk_alloc ?_ _)); exact BK111.out) hb)
              have n1_ := Aside0.mk (blk_below (g := gb122) (o := .cells #[.int .i64 t118, .int .i64 t119, .string t120] 32 (0, 0)) (by (with_reducible repeat (first | refine blk_drewN ?_ _ | refine blk_drew ?_ | refine blk_alloc ?_ _)); exact BK122.out) hb)
              have n2_ := Aside0.mk (blk_below (g := gb133) (o := .cells #[.int .i64 t129, .int .i64 t130, .string t131] 32 (0, 0)) (by (with_reducible repeat (first | refine blk_drewN ?_ _ | refine blk_drew ?_ | refine blk_alloc ?_ _)); exact BK133.out) hb)
              have n3_ := Aside0.mk (below_step (by repeat (first | (with_reducible first | exact HB.out | apply below_alloc | apply pw_below_drewN | apply below_drew1 | refine below_set ?_ GE111.out | refine below_set ?_ GE122.out | refine below_set ?_ GE133.out) | exact HB.out)) hb)
              clear BK111
              clear BK122
              clear BK133
              clear HB
              have BK111 := n0_
              have BK122 := n1_
              have BK133 := n2_
              have HB := n3_
              clear n0_ n1_ n2_ n3_
              (try clear hb)
              (try clear hb2)
              (try clear hk)
              (try clear hi)
              refine hK.out _ _ ⟨(blk_cell BK111.out 0).trans rfl, (blk_cell BK111.out 1).trans rfl, (blk_cell BK111.out 2).trans rfl, (blk_cell BK122.out 0).trans rfl, (blk_cell BK122.out 1).trans rfl, (blk_cell BK122.out 2).trans rfl⟩ (fun hHeld => ?_)
              clear hK K
              refine norm_ (a' := ?_) ?_ ?_
              rotate_left
              · show Act.put _ (some 52) _ = _
                simp only [Act.put, List.setIfInBounds_toArray, List.set_cons_zero, List.set_cons_succ, i64_w, i32_w]
                rfl
              refine one_ (i := 28) (N := some 53) #[true, true, true, true, true, true, true, true, true, true, true, true, true, true, true, true, true, true, true, true, true, true, true, true, true, true, true, true, true, false, false] rfl rfl (one_of HT_.out (by kernel_rfl)) (by decide) (fun K hK => ?_)
              refine goes_ Tryd.func47 (by kernel_rfl) rfl #[.agg #[.int .i64 t147, .int .i64 t148, .string t149]] (by rfl) rfl rfl (by (try simp only [List.map_toArray, List.map_cons, List.map_nil]); first | done | rfl | (simp only [List.length_drop, List.length_take]; rfl)) ?_
              with_reducible refine (value_Truth.calls t147 t148 t149 t150 _ A22.out).mono ?_
              rintro e w49 ⟨rfl, hb⟩
              refine ⟨_, rfl, ?_⟩
              have n0_ := Aside0.mk (blk_below (g := gb111) (o := .cells #[.int .i64 t107, .int .i64 t108, .string t109] 32 (0, 0)) (by (with_reducible repeat (first | refine blk_drewN ?_ _ | refine blk_drew ?_ | refine blk_alloc ?_ _)); exact BK111.out) hb)
              have n1_ := Aside0.mk (blk_below (g := gb122) (o := .cells #[.int .i64 t118, .int .i64 t119, .string t120] 32 (0, 0)) (by (with_reducible repeat (first | refine blk_drewN ?_ _ | refine blk_drew ?_ | refine blk_alloc ?_ _)); exact BK122.out) hb)
              have n2_ := Aside0.mk (blk_below (g := gb133) (o := .cells #[.int .i64 t129, .int .i64 t130, .string t131] 32 (0, 0)) (by (with_reducible repeat (first | refine blk_drewN ?_ _ | refine blk_drew ?_ | refine blk_alloc ?_ _)); exact BK133.out) hb)
              have n3_ := Aside0.mk (below_step (by repeat (first | (with_reducible first | exact HB.out | apply below_alloc | apply pw_below_drewN | apply below_drew1 | refine below_set ?_ GE111.out | refine below_set ?_ GE122.out | refine below_set ?_ GE133.out) | exact HB.out)) hb)
              clear BK111
              clear BK122
              clear BK133
              clear HB
              have BK111 := n0_
              have BK122 := n1_
              have BK133 := n2_
              have HB := n3_
              clear n0_ n1_ n2_ n3_
              (try clear hb)
              (try clear hb2)
              (try clear hk)
              (try clear hi)
              refine hK.out _ _ ⟨(blk_cell BK111.out 0).trans rfl, (blk_cell BK111.out 1).trans rfl, (blk_cell BK111.out 2).trans rfl, (blk_cell BK122.out 0).trans rfl, (blk_cell BK122.out 1).trans rfl, (blk_cell BK122.out 2).trans rfl⟩ (fun hHeld => ?_)
              clear hK K
              refine norm_ (a' := ?_) ?_ ?_
              rotate_left
              · show Act.put _ (some 53) _ = _
                simp only [Act.put, List.setIfInBounds_toArray, List.set_cons_zero, List.set_cons_succ, i64_w, i32_w]
                rfl
              refine pure_ (i := 29) (N := some 54) (v := ?_) (a' := ?_) #[true, true, true, true, true, true, true, true, true, true, true, true, true, true, true, true, true, true, true, true, true, true, true, true, true, true, true, true, true, true, false] rfl rfl (any_of HT_.out (by kernel_rfl)) (fun _ _ _ h => h) (Or.inl ⟨by rfl, ?_⟩) ?_ ?_
              rotate_left
              · intro w'
                go_simp
                with_reducible rfl
              rotate_left
              · simp only [Act.put, List.setIfInBounds_toArray, List.set_cons_zero, List.set_cons_succ, i64_w, i32_w]
                rfl
              refine pure_ (i := 30) (N := some 0) (v := ?_) (a' := ?_) #[true, true, true, true, true, true, true, true, true, true, true, true, true, true, true, true, true, true, true, true, true, true, true, true, true, true, true, true, true, true, true] rfl rfl (any_of HT_.out (by kernel_rfl)) (fun _ _ _ h => h) (Or.inl ⟨by rfl, ?_⟩) ?_ ?_
              rotate_left
              · intro w'
                go_simp
                with_reducible rfl
              rotate_left
              · simp only [Act.put, List.setIfInBounds_toArray, List.set_cons_zero, List.set_cons_succ, i64_w, i32_w]
                rfl
              refine done_ (done_of HT_.out (by kernel_rfl)) ?_
              try go_wp2
              go_ret
              exact ⟨by first | rfl | (simp [errW_none, errW_some] <;> rfl) | (simp [*, errW_none, errW_some] <;> rfl), by repeat (first | (with_reducible first | exact HB.out | apply below_alloc | apply pw_below_drewN | apply below_drew1 | refine below_set ?_ GE111.out | refine below_set ?_ GE122.out | refine below_set ?_ GE133.out) | exact HB.out)⟩
            · rw [if_neg c20] at H
              have c20b0 : (t146.toList == ([97, 116, 116, 101, 109, 112, 116, 32, 116, 111, 32, 99, 111, 109, 112, 97, 114, 101, 32, 110, 117, 109, 98, 101, 114, 32, 119, 105, 116, 104, 32, 115, 116, 114, 105, 110, 103] : List UInt8)) = false := beq_eq_false_iff_ne.mpr c20
              have c20b1 : (t146.toList != ([97, 116, 116, 101, 109, 112, 116, 32, 116, 111, 32, 99, 111, 109, 112, 97, 114, 101, 32, 110, 117, 109, 98, 101, 114, 32, 119, 105, 116, 104, 32, 115, 116, 114, 105, 110, 103] : List UInt8)) = true := bne_iff_ne.mpr c20
              exact absurd (Option.some.inj H) (by rw [HR.out]; decide)
          · rw [if_neg c16] at H
            have c16b0 : (t132 == 18) = false := beq_eq_false_iff_ne.mpr c16
            have c16b1 : (t132 != 18) = true := bne_iff_ne.mpr c16
            exact absurd (Option.some.inj H) (by rw [HR.out]; decide)
        · rw [if_neg c15] at H
          have c15b0 : (t121 == 0) = false := beq_eq_false_iff_ne.mpr c15
          have c15b1 : (t121 != 0) = true := bne_iff_ne.mpr c15
          exact absurd (Option.some.inj H) (by rw [HR.out]; decide)
      · rw [if_neg c14] at H
        have c14b0 : (t118 == t137 && (t119 == t138 && (t120.toList == t139.toList))) = false := by simpa using c14
        (try (have c14b1 : decide (t118 = t137 && (t119 == t138 && (t120.toList == t139.toList))) = false := by simpa using c14))
        (try (have c14b2 : (t118 == t137 && (t119 == t138 && (t120.toList == t139.toList))) = false := by simpa using c14))
        (try (have c14b3 : ¬ (t118 = t137 && (t119 == t138 && (t120.toList == t139.toList))) := by simpa using c14))
        clear c14
        exact absurd (Option.some.inj H) (by rw [HR.out]; decide)
    · rw [if_neg c12] at H
      have c12b0 : (t110 == 0) = false := beq_eq_false_iff_ne.mpr c12
      have c12b1 : (t110 != 0) = true := bne_iff_ne.mpr c12
      exact absurd (Option.some.inj H) (by rw [HR.out]; decide)
  · rw [if_neg c11] at H
    have c11b0 : (t107 == t134 && (t108 == t135 && (t109.toList == t136.toList))) = false := by simpa using c11
    (try (have c11b1 : decide (t107 = t134 && (t108 == t135 && (t109.toList == t136.toList))) = false := by simpa using c11))
    (try (have c11b2 : (t107 == t134 && (t108 == t135 && (t109.toList == t136.toList))) = false := by simpa using c11))
    (try (have c11b3 : ¬ (t107 = t134 && (t108 == t135 && (t109.toList == t136.toList))) := by simpa using c11))
    clear c11
    exact absurd (Option.some.inj H) (by rw [HR.out]; decide)

end Go.Proofs.YtpgpmldaggpciaaDoor.PAl
