-- printed by a call of the kit's print.py over several functions of this seat (wip/pr.sh)
import Derived.Test.YtpgpmldaggpciaaDoorPDox0
import Derived.Test.YtpgpmldaggpciaaDoorPDox1
import Derived.Test.YtpgpmldaggpciaaDoorPDox2
import Derived.Test.YtpgpmldaggpciaaDoorPDox3
import Derived.Test.YtpgpmldaggpciaaDoorPDox5
namespace Go.Proofs.YtpgpmldaggpciaaDoor.PDo
open Go.RowKit Go.Proofs.YtpgpmldaggpciaaDoorW.PrintWords Go.Proofs.YtpgpmldaggpciaaDoorW.PrintLast Go.Proofs.YtpgpmldaggpciaaDoorW.PrintMore
attribute [local go_sem] max2_int min2_int max_two min_two max_three min_three max_four min_four   -- for this text's walks alone
set_option linter.unusedVariables false
set_option linter.unusedSimpArgs false

attribute [local go_sem high] eqA32
/-! ### selkielaw11_alive: function 43 -/
def selkielaw11_alive.f (k : Nat)  : Option (Bool) := (value_OfStr.f (⟨#[49, 48]⟩ : ByteArray)).bind fun bt203 => ((value_OfInt.f 1).bind fun bt206 => ((oper_Do.f k 1 bt203.1 bt203.2.1 bt203.2.2 bt206.1 bt206.2.1 bt206.2.2 9).bind fun bt209 => ((value_OfInt.f 1).bind fun bt214 => ((value_OfStr.f (⟨#[97]⟩ : ByteArray)).bind fun bt217 => ((oper_Do.f k 11 bt214.1 bt214.2.1 bt214.2.2 bt217.1 bt217.2.1 bt217.2.2 9).bind fun bt220 => ((value_OfInt.f 1).bind fun bt225 => ((value_OfStr.f (⟨#[97]⟩ : ByteArray)).bind fun bt228 => ((oper_Do.f k 14 bt225.1 bt225.2.1 bt225.2.2 bt228.1 bt228.2.1 bt228.2.2 9).bind fun bt231 => ((value_OfInt.f 11).bind fun bt236 => (if (bt209.1 == bt236.1 && (bt209.2.1 == bt236.2.1 && (bt209.2.2.1.toList == bt236.2.2.toList))) = true then (if bt209.2.2.2 = 0 then ((value_OfStr.f (⟨#[49, 97]⟩ : ByteArray)).bind fun bt239 => (if (bt220.1 == bt239.1 && (bt220.2.1 == bt239.2.1 && (bt220.2.2.1.toList == bt239.2.2.toList))) = true then (if bt220.2.2.2 = 0 then (if bt231.2.2.2 = 18 then ((value_OfInt.f 1).bind fun bt242 => ((value_OfStr.f (⟨#[97]⟩ : ByteArray)).bind fun bt245 => ((oper_Blame.f k 14 bt242.1 bt242.2.1 bt242.2.2 bt245.1 bt245.2.1 bt245.2.2).bind fun t248 => (if t248.toList = ([97, 116, 116, 101, 109, 112, 116, 32, 116, 111, 32, 99, 111, 109, 112, 97, 114, 101, 32, 110, 117, 109, 98, 101, 114, 32, 119, 105, 116, 104, 32, 115, 116, 114, 105, 110, 103] : List UInt8) then ((value_OfInt.f 0).bind fun bt249 => ((value_Truth.f bt249.1 bt249.2.1 bt249.2.2).bind fun t252 => (some t252))) else (some false))))) else (some false)) else (some false)) else (some false))) else (some false)) else (some false)))))))))))
theorem selkielaw11_alive.mono : ∀ k, LeO (selkielaw11_alive.f k ) (selkielaw11_alive.f (k + 1) ) := by
  intro  k
  unfold selkielaw11_alive.f
  repeat' first
      | (with_reducible exact oper_Blame.mono _ _ _ _ _ _ _ _)
      | (with_reducible exact oper_Do.mono _ _ _ _ _ _ _ _ _)
      | (with_reducible exact LeO.refl _)
      | (with_reducible exact LeO.none _)
      | (with_reducible refine LeO.ite ?_ ?_)
      | (with_reducible refine LeO.bind ?_ (fun _ => ?_))
      | exact oper_Blame.mono _ _ _ _ _ _ _ _
      | exact oper_Do.mono _ _ _ _ _ _ _ _ _
      | exact LeO.none _
      | refine LeO.ite ?_ ?_
      | refine LeO.bind ?_ (fun _ => ?_)
def selkielaw11_alive.T4 : Bool × List (List Nat × List Nat) := (true, [([], []), ([], []), ([0, 1], [0, 1]), ([2, 1], [2]), ([3], [3]), ([4, 3], [3, 4]), ([3, 5], [3, 5]), ([6, 3], [6]), ([7], [7]), ([7, 7], [7]), ([8, 9, 7], [7, 8, 9]), ([7, 10], [7, 10]), ([11, 9], [11]), ([12], [12]), ([13, 12], [12, 13]), ([12, 14], [12, 14]), ([15, 12], [15]), ([16], [16]), ([17, 16], [16, 17]), ([16, 18], [16, 18]), ([19, 16], [19]), ([20, 20], [20]), ([21, 20], [20]), ([21, 22, 22, 20], [20, 21, 22]), ([23, 20], [20, 23]), ([20, 24], [20, 24]), ([25, 23], [25]), ([26, 26], [26]), ([27, 27, 26], [26, 27]), ([26, 28], [26, 28]), ([29, 28, 0, 1, 2, 3, 4, 5, 6, 7, 8, 9, 10, 11, 12, 13, 14, 15, 16, 17, 18, 19, 20, 21, 22, 23, 24, 25, 26, 27, 28, 29], [29])])
def selkielaw11_alive.B4 : List Nat := [0, 0, 3, 7, 15, 31, 63, 127, 255, 255, 1023, 2047, 4095, 8191, 16383, 32767, 65535, 131071, 262143, 524287, 1048575, 2097151, 4194303, 8388607, 16777215, 33554431, 67108863, 134217727, 268435455, 536870911, 1073741823]
theorem selkielaw11_alive.tab4 : rtab .any (opsOf Tryd.f43 4) = selkielaw11_alive.T4 := by kernel_rfl
theorem selkielaw11_alive.bits4 : waitsOk selkielaw11_alive.T4.2 selkielaw11_alive.B4 = true := by kernel_rfl
set_option maxHeartbeats 8000000 in
set_option maxRecDepth 100000 in
theorem selkielaw11_alive.calls (k : Nat)  (r : Bool) (w : World) (hT : Go.Proofs.YtpgpmldaggpciaaDoor.TabW.Tab w) (hr : r = true) (h : selkielaw11_alive.f k  = some r) :
    Calls Tryd.prog 43 #[] w fun e w' => e = .returned (.bool r) ∧ Below w.heap.size w w' := by
  have hu32 := Tryd.underlying32
  have HB := Aside0.mk (Below.refl w.heap.size w)
  have HR := Aside0.mk hr
  clear hr
  have HTT := Aside0.mk hT
  clear hT
  have H : ((value_OfStr.f (⟨#[49, 48]⟩ : ByteArray)).bind fun bt203 => ((value_OfInt.f 1).bind fun bt206 => ((oper_Do.f k 1 bt203.1 bt203.2.1 bt203.2.2 bt206.1 bt206.2.1 bt206.2.2 9).bind fun bt209 => ((value_OfInt.f 1).bind fun bt214 => ((value_OfStr.f (⟨#[97]⟩ : ByteArray)).bind fun bt217 => ((oper_Do.f k 11 bt214.1 bt214.2.1 bt214.2.2 bt217.1 bt217.2.1 bt217.2.2 9).bind fun bt220 => ((value_OfInt.f 1).bind fun bt225 => ((value_OfStr.f (⟨#[97]⟩ : ByteArray)).bind fun bt228 => ((oper_Do.f k 14 bt225.1 bt225.2.1 bt225.2.2 bt228.1 bt228.2.1 bt228.2.2 9).bind fun bt231 => ((value_OfInt.f 11).bind fun bt236 => (if (bt209.1 == bt236.1 && (bt209.2.1 == bt236.2.1 && (bt209.2.2.1.toList == bt236.2.2.toList))) = true then (if bt209.2.2.2 = 0 then ((value_OfStr.f (⟨#[49, 97]⟩ : ByteArray)).bind fun bt239 => (if (bt220.1 == bt239.1 && (bt220.2.1 == bt239.2.1 && (bt220.2.2.1.toList == bt239.2.2.toList))) = true then (if bt220.2.2.2 = 0 then (if bt231.2.2.2 = 18 then ((value_OfInt.f 1).bind fun bt242 => ((value_OfStr.f (⟨#[97]⟩ : ByteArray)).bind fun bt245 => ((oper_Blame.f k 14 bt242.1 bt242.2.1 bt242.2.2 bt245.1 bt245.2.1 bt245.2.2).bind fun t248 => (if t248.toList = ([97, 116, 116, 101, 109, 112, 116, 32, 116, 111, 32, 99, 111, 109, 112, 97, 114, 101, 32, 110, 117, 109, 98, 101, 114, 32, 119, 105, 116, 104, 32, 115, 116, 114, 105, 110, 103] : List UInt8) then ((value_OfInt.f 0).bind fun bt249 => ((value_Truth.f bt249.1 bt249.2.1 bt249.2.2).bind fun t252 => (some t252))) else (some false))))) else (some false)) else (some false)) else (some false))) else (some false)) else (some false)))))))))))) = some r := h
  clear h
  replace H := Option.bind_eq_some_iff.mp H
  obtain ⟨⟨t203, t204, t205⟩, A10, H⟩ := H
  replace H : ((value_OfInt.f 1).bind fun bt206 => ((oper_Do.f k 1 t203 t204 t205 bt206.1 bt206.2.1 bt206.2.2 9).bind fun bt209 => ((value_OfInt.f 1).bind fun bt214 => ((value_OfStr.f (⟨#[97]⟩ : ByteArray)).bind fun bt217 => ((oper_Do.f k 11 bt214.1 bt214.2.1 bt214.2.2 bt217.1 bt217.2.1 bt217.2.2 9).bind fun bt220 => ((value_OfInt.f 1).bind fun bt225 => ((value_OfStr.f (⟨#[97]⟩ : ByteArray)).bind fun bt228 => ((oper_Do.f k 14 bt225.1 bt225.2.1 bt225.2.2 bt228.1 bt228.2.1 bt228.2.2 9).bind fun bt231 => ((value_OfInt.f 11).bind fun bt236 => (if (bt209.1 == bt236.1 && (bt209.2.1 == bt236.2.1 && (bt209.2.2.1.toList == bt236.2.2.toList))) = true then (if bt209.2.2.2 = 0 then ((value_OfStr.f (⟨#[49, 97]⟩ : ByteArray)).bind fun bt239 => (if (bt220.1 == bt239.1 && (bt220.2.1 == bt239.2.1 && (bt220.2.2.1.toList == bt239.2.2.toList))) = true then (if bt220.2.2.2 = 0 then (if bt231.2.2.2 = 18 then ((value_OfInt.f 1).bind fun bt242 => ((value_OfStr.f (⟨#[97]⟩ : ByteArray)).bind fun bt245 => ((oper_Blame.f k 14 bt242.1 bt242.2.1 bt242.2.2 bt245.1 bt245.2.1 bt245.2.2).bind fun t248 => (if t248.toList = ([97, 116, 116, 101, 109, 112, 116, 32, 116, 111, 32, 99, 111, 109, 112, 97, 114, 101, 32, 110, 117, 109, 98, 101, 114, 32, 119, 105, 116, 104, 32, 115, 116, 114, 105, 110, 103] : List UInt8) then ((value_OfInt.f 0).bind fun bt249 => ((value_Truth.f bt249.1 bt249.2.1 bt249.2.2).bind fun t252 => (some t252))) else (some false))))) else (some false)) else (some false)) else (some false))) else (some false)) else (some false))))))))))) = some r := H
  have A1 := Aside0.mk A10
  clear A10
  replace H := Option.bind_eq_some_iff.mp H
  obtain ⟨⟨t206, t207, t208⟩, A20, H⟩ := H
  replace H : ((oper_Do.f k 1 t203 t204 t205 t206 t207 t208 9).bind fun bt209 => ((value_OfInt.f 1).bind fun bt214 => ((value_OfStr.f (⟨#[97]⟩ : ByteArray)).bind fun bt217 => ((oper_Do.f k 11 bt214.1 bt214.2.1 bt214.2.2 bt217.1 bt217.2.1 bt217.2.2 9).bind fun bt220 => ((value_OfInt.f 1).bind fun bt225 => ((value_OfStr.f (⟨#[97]⟩ : ByteArray)).bind fun bt228 => ((oper_Do.f k 14 bt225.1 bt225.2.1 bt225.2.2 bt228.1 bt228.2.1 bt228.2.2 9).bind fun bt231 => ((value_OfInt.f 11).bind fun bt236 => (if (bt209.1 == bt236.1 && (bt209.2.1 == bt236.2.1 && (bt209.2.2.1.toList == bt236.2.2.toList))) = true then (if bt209.2.2.2 = 0 then ((value_OfStr.f (⟨#[49, 97]⟩ : ByteArray)).bind fun bt239 => (if (bt220.1 == bt239.1 && (bt220.2.1 == bt239.2.1 && (bt220.2.2.1.toList == bt239.2.2.toList))) = true then (if bt220.2.2.2 = 0 then (if bt231.2.2.2 = 18 then ((value_OfInt.f 1).bind fun bt242 => ((value_OfStr.f (⟨#[97]⟩ : ByteArray)).bind fun bt245 => ((oper_Blame.f k 14 bt242.1 bt242.2.1 bt242.2.2 bt245.1 bt245.2.1 bt245.2.2).bind fun t248 => (if t248.toList = ([97, 116, 116, 101, 109, 112, 116, 32, 116, 111, 32, 99, 111, 109, 112, 97, 114, 101, 32, 110, 117, 109, 98, 101, 114, 32, 119, 105, 116, 104, 32, 115, 116, 114, 105, 110, 103] : List UInt8) then ((value_OfInt.f 0).bind fun bt249 => ((value_Truth.f bt249.1 bt249.2.1 bt249.2.2).bind fun t252 => (some t252))) else (some false))))) else (some false)) else (some false)) else (some false))) else (some false)) else (some false)))))))))) = some r := H
  have A2 := Aside0.mk A20
  clear A20
  replace H := Option.bind_eq_some_iff.mp H
  obtain ⟨⟨t209, t210, t211, t212⟩, A30, H⟩ := H
  replace H : ((value_OfInt.f 1).bind fun bt214 => ((value_OfStr.f (⟨#[97]⟩ : ByteArray)).bind fun bt217 => ((oper_Do.f k 11 bt214.1 bt214.2.1 bt214.2.2 bt217.1 bt217.2.1 bt217.2.2 9).bind fun bt220 => ((value_OfInt.f 1).bind fun bt225 => ((value_OfStr.f (⟨#[97]⟩ : ByteArray)).bind fun bt228 => ((oper_Do.f k 14 bt225.1 bt225.2.1 bt225.2.2 bt228.1 bt228.2.1 bt228.2.2 9).bind fun bt231 => ((value_OfInt.f 11).bind fun bt236 => (if (t209 == bt236.1 && (t210 == bt236.2.1 && (t211.toList == bt236.2.2.toList))) = true then (if t212 = 0 then ((value_OfStr.f (⟨#[49, 97]⟩ : ByteArray)).bind fun bt239 => (if (bt220.1 == bt239.1 && (bt220.2.1 == bt239.2.1 && (bt220.2.2.1.toList == bt239.2.2.toList))) = true then (if bt220.2.2.2 = 0 then (if bt231.2.2.2 = 18 then ((value_OfInt.f 1).bind fun bt242 => ((value_OfStr.f (⟨#[97]⟩ : ByteArray)).bind fun bt245 => ((oper_Blame.f k 14 bt242.1 bt242.2.1 bt242.2.2 bt245.1 bt245.2.1 bt245.2.2).bind fun t248 => (if t248.toList = ([97, 116, 116, 101, 109, 112, 116, 32, 116, 111, 32, 99, 111, 109, 112, 97, 114, 101, 32, 110, 117, 109, 98, 101, 114, 32, 119, 105, 116, 104, 32, 115, 116, 114, 105, 110, 103] : List UInt8) then ((value_OfInt.f 0).bind fun bt249 => ((value_Truth.f bt249.1 bt249.2.1 bt249.2.2).bind fun t252 => (some t252))) else (some false))))) else (some false)) else (some false)) else (some false))) else (some false)) else (some false))))))))) = some r := H
  have A3 := Aside0.mk A30
  clear A30
  replace H := Option.bind_eq_some_iff.mp H
  obtain ⟨⟨t214, t215, t216⟩, A40, H⟩ := H
  replace H : ((value_OfStr.f (⟨#[97]⟩ : ByteArray)).bind fun bt217 => ((oper_Do.f k 11 t214 t215 t216 bt217.1 bt217.2.1 bt217.2.2 9).bind fun bt220 => ((value_OfInt.f 1).bind fun bt225 => ((value_OfStr.f (⟨#[97]⟩ : ByteArray)).bind fun bt228 => ((oper_Do.f k 14 bt225.1 bt225.2.1 bt225.2.2 bt228.1 bt228.2.1 bt228.2.2 9).bind fun bt231 => ((value_OfInt.f 11).bind fun bt236 => (if (t209 == bt236.1 && (t210 == bt236.2.1 && (t211.toList == bt236.2.2.toList))) = true then (if t212 = 0 then ((value_OfStr.f (⟨#[49, 97]⟩ : ByteArray)).bind fun bt239 => (if (bt220.1 == bt239.1 && (bt220.2.1 == bt239.2.1 && (bt220.2.2.1.toList == bt239.2.2.toList))) = true then (if bt220.2.2.2 = 0 then (if bt231.2.2.2 = 18 then ((value_OfInt.f 1).bind fun bt242 => ((value_OfStr.f (⟨#[97]⟩ : ByteArray)).bind fun bt245 => ((oper_Blame.f k 14 bt242.1 bt242.2.1 bt242.2.2 bt245.1 bt245.2.1 bt245.2.2).bind fun t248 => (if t248.toList = ([97, 116, 116, 101, 109, 112, 116, 32, 116, 111, 32, 99, 111, 109, 112, 97, 114, 101, 32, 110, 117, 109, 98, 101, 114, 32, 119, 105, 116, 104, 32, 115, 116, 114, 105, 110, 103] : List UInt8) then ((value_OfInt.f 0).bind fun bt249 => ((value_Truth.f bt249.1 bt249.2.1 bt249.2.2).bind fun t252 => (some t252))) else (some false))))) else (some false)) else (some false)) else (some false))) else (some false)) else (some false)))))))) = some r := H
  have A4 := Aside0.mk A40
  clear A40
  replace H := Option.bind_eq_some_iff.mp H
  obtain ⟨⟨t217, t218, t219⟩, A50, H⟩ := H
  replace H : ((oper_Do.f k 11 t214 t215 t216 t217 t218 t219 9).bind fun bt220 => ((value_OfInt.f 1).bind fun bt225 => ((value_OfStr.f (⟨#[97]⟩ : ByteArray)).bind fun bt228 => ((oper_Do.f k 14 bt225.1 bt225.2.1 bt225.2.2 bt228.1 bt228.2.1 bt228.2.2 9).bind fun bt231 => ((value_OfInt.f 11).bind fun bt236 => (if (t209 == bt236.1 && (t210 == bt236.2.1 && (t211.toList == bt236.2.2.toList))) = true then (if t212 = 0 then ((value_OfStr.f (⟨#[49, 97]⟩ : ByteArray)).bind fun bt239 => (if (bt220.1 == bt239.1 && (bt220.2.1 == bt239.2.1 && (bt220.2.2.1.toList == bt239.2.2.toList))) = true then (if bt220.2.2.2 = 0 then (if bt231.2.2.2 = 18 then ((value_OfInt.f 1).bind fun bt242 => ((value_OfStr.f (⟨#[97]⟩ : ByteArray)).bind fun bt245 => ((oper_Blame.f k 14 bt242.1 bt242.2.1 bt242.2.2 bt245.1 bt245.2.1 bt245.2.2).bind fun t248 => (if t248.toList = ([97, 116, 116, 101, 109, 112, 116, 32, 116, 111, 32, 99, 111, 109, 112, 97, 114, 101, 32, 110, 117, 109, 98, 101, 114, 32, 119, 105, 116, 104, 32, 115, 116, 114, 105, 110, 103] : List UInt8) then ((value_OfInt.f 0).bind fun bt249 => ((value_Truth.f bt249.1 bt249.2.1 bt249.2.2).bind fun t252 => (some t252))) else (some false))))) else (some false)) else (some false)) else (some false))) else (some false)) else (some false))))))) = some r := H
  have A5 := Aside0.mk A50
  clear A50
  replace H := Option.bind_eq_some_iff.mp H
  obtain ⟨⟨t220, t221, t222, t223⟩, A60, H⟩ := H
  replace H : ((value_OfInt.f 1).bind fun bt225 => ((value_OfStr.f (⟨#[97]⟩ : ByteArray)).bind fun bt228 => ((oper_Do.f k 14 bt225.1 bt225.2.1 bt225.2.2 bt228.1 bt228.2.1 bt228.2.2 9).bind fun bt231 => ((value_OfInt.f 11).bind fun bt236 => (if (t209 == bt236.1 && (t210 == bt236.2.1 && (t211.toList == bt236.2.2.toList))) = true then (if t212 = 0 then ((value_OfStr.f (⟨#[49, 97]⟩ : ByteArray)).bind fun bt239 => (if (t220 == bt239.1 && (t221 == bt239.2.1 && (t222.toList == bt239.2.2.toList))) = true then (if t223 = 0 then (if bt231.2.2.2 = 18 then ((value_OfInt.f 1).bind fun bt242 => ((value_OfStr.f (⟨#[97]⟩ : ByteArray)).bind fun bt245 => ((oper_Blame.f k 14 bt242.1 bt242.2.1 bt242.2.2 bt245.1 bt245.2.1 bt245.2.2).bind fun t248 => (if t248.toList = ([97, 116, 116, 101, 109, 112, 116, 32, 116, 111, 32, 99, 111, 109, 112, 97, 114, 101, 32, 110, 117, 109, 98, 101, 114, 32, 119, 105, 116, 104, 32, 115, 116, 114, 105, 110, 103] : List UInt8) then ((value_OfInt.f 0).bind fun bt249 => ((value_Truth.f bt249.1 bt249.2.1 bt249.2.2).bind fun t252 => (some t252))) else (some false))))) else (some false)) else (some false)) else (some false))) else (some false)) else (some false)))))) = some r := H
  have A6 := Aside0.mk A60
  clear A60
  replace H := Option.bind_eq_some_iff.mp H
  obtain ⟨⟨t225, t226, t227⟩, A70, H⟩ := H
  replace H : ((value_OfStr.f (⟨#[97]⟩ : ByteArray)).bind fun bt228 => ((oper_Do.f k 14 t225 t226 t227 bt228.1 bt228.2.1 bt228.2.2 9).bind fun bt231 => ((value_OfInt.f 11).bind fun bt236 => (if (t209 == bt236.1 && (t210 == bt236.2.1 && (t211.toList == bt236.2.2.toList))) = true then (if t212 = 0 then ((value_OfStr.f (⟨#[49, 97]⟩ : ByteArray)).bind fun bt239 => (if (t220 == bt239.1 && (t221 == bt239.2.1 && (t222.toList == bt239.2.2.toList))) = true then (if t223 = 0 then (if bt231.2.2.2 = 18 then ((value_OfInt.f 1).bind fun bt242 => ((value_OfStr.f (⟨#[97]⟩ : ByteArray)).bind fun bt245 => ((oper_Blame.f k 14 bt242.1 bt242.2.1 bt242.2.2 bt245.1 bt245.2.1 bt245.2.2).bind fun t248 => (if t248.toList = ([97, 116, 116, 101, 109, 112, 116, 32, 116, 111, 32, 99, 111, 109, 112, 97, 114, 101, 32, 110, 117, 109, 98, 101, 114, 32, 119, 105, 116, 104, 32, 115, 116, 114, 105, 110, 103] : List UInt8) then ((value_OfInt.f 0).bind fun bt249 => ((value_Truth.f bt249.1 bt249.2.1 bt249.2.2).bind fun t252 => (some t252))) else (some false))))) else (some false)) else (some false)) else (some false))) else (some false)) else (some false))))) = some r := H
  have A7 := Aside0.mk A70
  clear A70
  replace H := Option.bind_eq_some_iff.mp H
  obtain ⟨⟨t228, t229, t230⟩, A80, H⟩ := H
  replace H : ((oper_Do.f k 14 t225 t226 t227 t228 t229 t230 9).bind fun bt231 => ((value_OfInt.f 11).bind fun bt236 => (if (t209 == bt236.1 && (t210 == bt236.2.1 && (t211.toList == bt236.2.2.toList))) = true then (if t212 = 0 then ((value_OfStr.f (⟨#[49, 97]⟩ : ByteArray)).bind fun bt239 => (if (t220 == bt239.1 && (t221 == bt239.2.1 && (t222.toList == bt239.2.2.toList))) = true then (if t223 = 0 then (if bt231.2.2.2 = 18 then ((value_OfInt.f 1).bind fun bt242 => ((value_OfStr.f (⟨#[97]⟩ : ByteArray)).bind fun bt245 => ((oper_Blame.f k 14 bt242.1 bt242.2.1 bt242.2.2 bt245.1 bt245.2.1 bt245.2.2).bind fun t248 => (if t248.toList = ([97, 116, 116, 101, 109, 112, 116, 32, 116, 111, 32, 99, 111, 109, 112, 97, 114, 101, 32, 110, 117, 109, 98, 101, 114, 32, 119, 105, 116, 104, 32, 115, 116, 114, 105, 110, 103] : List UInt8) then ((value_OfInt.f 0).bind fun bt249 => ((value_Truth.f bt249.1 bt249.2.1 bt249.2.2).bind fun t252 => (some t252))) else (some false))))) else (some false)) else (some false)) else (some false))) else (some false)) else (some false)))) = some r := H
  have A8 := Aside0.mk A80
  clear A80
  replace H := Option.bind_eq_some_iff.mp H
  obtain ⟨⟨t231, t232, t233, t234⟩, A90, H⟩ := H
  replace H : ((value_OfInt.f 11).bind fun bt236 => (if (t209 == bt236.1 && (t210 == bt236.2.1 && (t211.toList == bt236.2.2.toList))) = true then (if t212 = 0 then ((value_OfStr.f (⟨#[49, 97]⟩ : ByteArray)).bind fun bt239 => (if (t220 == bt239.1 && (t221 == bt239.2.1 && (t222.toList == bt239.2.2.toList))) = true then (if t223 = 0 then (if t234 = 18 then ((value_OfInt.f 1).bind fun bt242 => ((value_OfStr.f (⟨#[97]⟩ : ByteArray)).bind fun bt245 => ((oper_Blame.f k 14 bt242.1 bt242.2.1 bt242.2.2 bt245.1 bt245.2.1 bt245.2.2).bind fun t248 => (if t248.toList = ([97, 116, 116, 101, 109, 112, 116, 32, 116, 111, 32, 99, 111, 109, 112, 97, 114, 101, 32, 110, 117, 109, 98, 101, 114, 32, 119, 105, 116, 104, 32, 115, 116, 114, 105, 110, 103] : List UInt8) then ((value_OfInt.f 0).bind fun bt249 => ((value_Truth.f bt249.1 bt249.2.1 bt249.2.2).bind fun t252 => (some t252))) else (some false))))) else (some false)) else (some false)) else (some false))) else (some false)) else (some false))) = some r := H
  have A9 := Aside0.mk A90
  clear A90
  replace H := Option.bind_eq_some_iff.mp H
  obtain ⟨⟨t236, t237, t238⟩, A100, H⟩ := H
  replace H : (if (t209 == t236 && (t210 == t237 && (t211.toList == t238.toList))) = true then (if t212 = 0 then ((value_OfStr.f (⟨#[49, 97]⟩ : ByteArray)).bind fun bt239 => (if (t220 == bt239.1 && (t221 == bt239.2.1 && (t222.toList == bt239.2.2.toList))) = true then (if t223 = 0 then (if t234 = 18 then ((value_OfInt.f 1).bind fun bt242 => ((value_OfStr.f (⟨#[97]⟩ : ByteArray)).bind fun bt245 => ((oper_Blame.f k 14 bt242.1 bt242.2.1 bt242.2.2 bt245.1 bt245.2.1 bt245.2.2).bind fun t248 => (if t248.toList = ([97, 116, 116, 101, 109, 112, 116, 32, 116, 111, 32, 99, 111, 109, 112, 97, 114, 101, 32, 110, 117, 109, 98, 101, 114, 32, 119, 105, 116, 104, 32, 115, 116, 114, 105, 110, 103] : List UInt8) then ((value_OfInt.f 0).bind fun bt249 => ((value_Truth.f bt249.1 bt249.2.1 bt249.2.2).bind fun t252 => (some t252))) else (some false))))) else (some false)) else (some false)) else (some false))) else (some false)) else (some false)) = some r := H
  have A10 := Aside0.mk A100
  clear A100
  by_cases c11 : (t209 == t236 && (t210 == t237 && (t211.toList == t238.toList))) = true
  · rw [if_pos c11] at H
    have c11b0 : (t209 == t236 && (t210 == t237 && (t211.toList == t238.toList))) = true := c11
    (try (have c11b1 : decide (t209 = t236 && (t210 == t237 && (t211.toList == t238.toList))) = true := by simpa using c11))
    (try (have c11b2 : (t209 == t236 && (t210 == t237 && (t211.toList == t238.toList))) = true := by simpa using c11))
    clear c11
    by_cases c12 : t212 = 0
    · rw [if_pos c12] at H
      have c12b0 : (t212 == 0) = true := beq_iff_eq.mpr c12
      have c12b1 : (t212 != 0) = false := bne_eq_false_iff_eq.mpr c12
      clear c12
      replace H := Option.bind_eq_some_iff.mp H
      obtain ⟨⟨t239, t240, t241⟩, A130, H⟩ := H
      replace H : (if (t220 == t239 && (t221 == t240 && (t222.toList == t241.toList))) = true then (if t223 = 0 then (if t234 = 18 then ((value_OfInt.f 1).bind fun bt242 => ((value_OfStr.f (⟨#[97]⟩ : ByteArray)).bind fun bt245 => ((oper_Blame.f k 14 bt242.1 bt242.2.1 bt242.2.2 bt245.1 bt245.2.1 bt245.2.2).bind fun t248 => (if t248.toList = ([97, 116, 116, 101, 109, 112, 116, 32, 116, 111, 32, 99, 111, 109, 112, 97, 114, 101, 32, 110, 117, 109, 98, 101, 114, 32, 119, 105, 116, 104, 32, 115, 116, 114, 105, 110, 103] : List UInt8) then ((value_OfInt.f 0).bind fun bt249 => ((value_Truth.f bt249.1 bt249.2.1 bt249.2.2).bind fun t252 => (some t252))) else (some false))))) else (some false)) else (some false)) else (some false)) = some r := H
      have A13 := Aside0.mk A130
      clear A130
      by_cases c14 : (t220 == t239 && (t221 == t240 && (t222.toList == t241.toList))) = true
      · rw [if_pos c14] at H
        have c14b0 : (t220 == t239 && (t221 == t240 && (t222.toList == t241.toList))) = true := c14
        (try (have c14b1 : decide (t220 = t239 && (t221 == t240 && (t222.toList == t241.toList))) = true := by simpa using c14))
        (try (have c14b2 : (t220 == t239 && (t221 == t240 && (t222.toList == t241.toList))) = true := by simpa using c14))
        clear c14
        by_cases c15 : t223 = 0
        · rw [if_pos c15] at H
          have c15b0 : (t223 == 0) = true := beq_iff_eq.mpr c15
          have c15b1 : (t223 != 0) = false := bne_eq_false_iff_eq.mpr c15
          clear c15
          by_cases c16 : t234 = 18
          · rw [if_pos c16] at H
            have c16b0 : (t234 == 18) = true := beq_iff_eq.mpr c16
            have c16b1 : (t234 != 18) = false := bne_eq_false_iff_eq.mpr c16
            clear c16
            replace H := Option.bind_eq_some_iff.mp H
            obtain ⟨⟨t242, t243, t244⟩, A170, H⟩ := H
            replace H : ((value_OfStr.f (⟨#[97]⟩ : ByteArray)).bind fun bt245 => ((oper_Blame.f k 14 t242 t243 t244 bt245.1 bt245.2.1 bt245.2.2).bind fun t248 => (if t248.toList = ([97, 116, 116, 101, 109, 112, 116, 32, 116, 111, 32, 99, 111, 109, 112, 97, 114, 101, 32, 110, 117, 109, 98, 101, 114, 32, 119, 105, 116, 104, 32, 115, 116, 114, 105, 110, 103] : List UInt8) then ((value_OfInt.f 0).bind fun bt249 => ((value_Truth.f bt249.1 bt249.2.1 bt249.2.2).bind fun t252 => (some t252))) else (some false)))) = some r := H
            have A17 := Aside0.mk A170
            clear A170
            replace H := Option.bind_eq_some_iff.mp H
            obtain ⟨⟨t245, t246, t247⟩, A180, H⟩ := H
            replace H : ((oper_Blame.f k 14 t242 t243 t244 t245 t246 t247).bind fun t248 => (if t248.toList = ([97, 116, 116, 101, 109, 112, 116, 32, 116, 111, 32, 99, 111, 109, 112, 97, 114, 101, 32, 110, 117, 109, 98, 101, 114, 32, 119, 105, 116, 104, 32, 115, 116, 114, 105, 110, 103] : List UInt8) then ((value_OfInt.f 0).bind fun bt249 => ((value_Truth.f bt249.1 bt249.2.1 bt249.2.2).bind fun t252 => (some t252))) else (some false))) = some r := H
            have A18 := Aside0.mk A180
            clear A180
            replace H := Option.bind_eq_some_iff.mp H
            obtain ⟨t248, A190, H⟩ := H
            replace H : (if t248.toList = ([97, 116, 116, 101, 109, 112, 116, 32, 116, 111, 32, 99, 111, 109, 112, 97, 114, 101, 32, 110, 117, 109, 98, 101, 114, 32, 119, 105, 116, 104, 32, 115, 116, 114, 105, 110, 103] : List UInt8) then ((value_OfInt.f 0).bind fun bt249 => ((value_Truth.f bt249.1 bt249.2.1 bt249.2.2).bind fun t252 => (some t252))) else (some false)) = some r := H
            have A19 := Aside0.mk A190
            clear A190
            by_cases c20 : t248.toList = ([97, 116, 116, 101, 109, 112, 116, 32, 116, 111, 32, 99, 111, 109, 112, 97, 114, 101, 32, 110, 117, 109, 98, 101, 114, 32, 119, 105, 116, 104, 32, 115, 116, 114, 105, 110, 103] : List UInt8)
            · rw [if_pos c20] at H
              have c20b0 : (t248.toList == ([97, 116, 116, 101, 109, 112, 116, 32, 116, 111, 32, 99, 111, 109, 112, 97, 114, 101, 32, 110, 117, 109, 98, 101, 114, 32, 119, 105, 116, 104, 32, 115, 116, 114, 105, 110, 103] : List UInt8)) = true := beq_iff_eq.mpr c20
              have c20b1 : (t248.toList != ([97, 116, 116, 101, 109, 112, 116, 32, 116, 111, 32, 99, 111, 109, 112, 97, 114, 101, 32, 110, 117, 109, 98, 101, 114, 32, 119, 105, 116, 104, 32, 115, 116, 114, 105, 110, 103] : List UInt8)) = false := bne_eq_false_iff_eq.mpr c20
              clear c20
              replace H := Option.bind_eq_some_iff.mp H
              obtain ⟨⟨t249, t250, t251⟩, A210, H⟩ := H
              replace H : ((value_Truth.f t249 t250 t251).bind fun t252 => (some t252)) = some r := H
              have A21 := Aside0.mk A210
              clear A210
              replace H := Option.bind_eq_some_iff.mp H
              obtain ⟨t252, A220, H⟩ := H
              replace H : (some t252) = some r := H
              have A22 := Aside0.mk A220
              clear A220
              obtain rfl := Option.some.inj H
              go_enter Tryd.func43, Tryd.ntmps43
              try go_wp2_with (first | ((with_reducible refine gate_callee (f := 55) rfl ?_); refine goesL_ (some 8) rfl rfl Tryd.func55 (by kernel_rfl) rfl #[.string (⟨#[49, 48]⟩ : ByteArray)] rfl (by (try simp only [List.map_toArray, List.map_cons, List.map_nil]); first | done | rfl | (simp only [List.length_drop, List.length_take]; rfl)) ?_; (with_reducible refine (value_OfStr.calls (⟨#[49, 48]⟩ : ByteArray) t203 t204 t205 _ A1.out).mono ?_); rintro e w23 ⟨rfl, hb⟩; refine ⟨_, rfl, ?_⟩; have n0_ := Aside0.mk (below_step (by repeat (first | (with_reducible first | exact HB.out | apply below_alloc | apply pw_below_drewN | apply below_drew1) | exact HB.out)) hb); clear HB; have HB := n0_; clear n0_; (try clear hb); (try clear hb2); (try clear hk); (try clear hi)) | ((with_reducible refine gate_callee (f := 53) rfl ?_); refine goesL_ (some 9) rfl rfl Tryd.func53 (by kernel_rfl) rfl #[.int .i64 1] rfl (by (try simp only [List.map_toArray, List.map_cons, List.map_nil]); first | done | rfl | (simp only [List.length_drop, List.length_take]; rfl)) ?_; (with_reducible refine (value_OfInt.calls 1 t206 t207 t208 _ A2.out).mono ?_); rintro e w24 ⟨rfl, hb⟩; refine ⟨_, rfl, ?_⟩; have n0_ := Aside0.mk (below_step (by repeat (first | (with_reducible first | exact HB.out | apply below_alloc | apply pw_below_drewN | apply below_drew1) | exact HB.out)) hb); clear HB; have HB := n0_; clear n0_; (try clear hb); (try clear hb2); (try clear hk); (try clear hi)) | ((with_reducible refine gate_callee (f := 46) rfl ?_); refine goesL_ (some 10) rfl rfl Tryd.func46 (by kernel_rfl) rfl #[.int .i64 1, .agg #[.int .i64 t203, .int .i64 t204, .string t205], .agg #[.int .i64 t206, .int .i64 t207, .string t208], .int .i64 9] rfl (by (try simp only [List.map_toArray, List.map_cons, List.map_nil]); first | done | rfl | (simp only [List.length_drop, List.length_take]; rfl)) ?_; (with_reducible refine (oper_Do.calls k 1 t203 t204 t205 t206 t207 t208 9 t209 t210 t211 t212 _ (HTT.out.on (by repeat (first | (with_reducible first | exact HB.out | apply below_alloc | apply pw_below_drewN | apply below_drew1) | exact HB.out))) A3.out).mono ?_); rintro e w25 ⟨rfl, hb⟩; refine ⟨_, rfl, ?_⟩; have n0_ := Aside0.mk (below_step (by repeat (first | (with_reducible first | exact HB.out | apply below_alloc | apply pw_below_drewN | apply below_drew1) | exact HB.out)) hb); clear HB; have HB := n0_; clear n0_; (try clear hb); (try clear hb2); (try clear hk); (try clear hi)) | ((with_reducible refine gate_dst (N := 1) rfl ?_); refine box_event ?hg (N := 1) ?hd (cs := #[.int .i64 0, .int .i64 0, .string (⟨#[]⟩ : ByteArray)]) (t := 32) ?hr ?_; (case hd => rfl); (case hg => rfl); (case hr => first | (go_simp; done) | (go_simp; rfl)); intro gb213 hg w26 hbox hb; have n0_ := Aside0.mk (below_step (by repeat (first | (with_reducible first | exact HB.out | apply below_alloc | apply pw_below_drewN | apply below_drew1) | exact HB.out)) hb); have n1_ := Aside0.mk (hbox); have n2_ := Aside0.mk ((by rw [hg]; exact (below_size (by repeat (first | (with_reducible first | exact HB.out | apply below_alloc | apply pw_below_drewN | apply below_drew1) | exact HB.out))) : w.heap.size ≤ gb213)); have n3_ := Aside0.mk ((by rw [hg]; exact (below_size (by repeat (first | (with_reducible first | exact HB.out | apply below_alloc | apply pw_below_drewN | apply below_drew1) | exact HB.out))) : w.heap.size ≤ gb213)); clear HB; have HB := n0_; have BK213 := n1_; have GW213 := n2_; have GE213 := n3_; clear n0_ n1_ n2_ n3_; clear hb hbox hg; have hcz27_0 : w26.cell? ⟨gb213, 0, none⟩ = some (.int .i64 0) := (blk_cell BK213.out 0).trans rfl; have hcz27_1 : w26.cell? ⟨gb213, 1, none⟩ = some (.int .i64 0) := (blk_cell BK213.out 1).trans rfl; have hcz27_2 : w26.cell? ⟨gb213, 2, none⟩ = some (.string (⟨#[]⟩ : ByteArray)) := (blk_cell BK213.out 2).trans rfl; have hfz27_0 := blk_frozen BK213.out 0; have hfz27_1 := blk_frozen BK213.out 1; have hfz27_2 := blk_frozen BK213.out 2) | ((with_reducible refine gate_callee (f := 53) rfl ?_); refine goesL_ (some 14) rfl rfl Tryd.func53 (by kernel_rfl) rfl #[.int .i64 1] rfl (by (try simp only [List.map_toArray, List.map_cons, List.map_nil]); first | done | rfl | (simp only [List.length_drop, List.length_take]; rfl)) ?_; (with_reducible refine (value_OfInt.calls 1 t214 t215 t216 _ A4.out).mono ?_); rintro e w28 ⟨rfl, hb⟩; refine ⟨_, rfl, ?_⟩; have n0_ := Aside0.mk (blk_below (g := gb213) (o := .cells #[.int .i64 t209, .int .i64 t210, .string t211] 32 (0, 0)) (by (with_reducible repeat (first | refine blk_drewN ?_ _ | refine blk_drew ?_ | refine blk_alloc ?_ _)); refine blk_put (cs := #[.int .i64 t209, .int .i64 t210, .string (⟨#[]⟩ : ByteArray)]) ?_ 2 _ rfl; (with_reducible repeat (first | refine blk_drewN ?_ _ | refine blk_drew ?_ | refine blk_alloc ?_ _)); refine blk_put (cs := #[.int .i64 t209, .int .i64 0, .string (⟨#[]⟩ : ByteArray)]) ?_ 1 _ rfl; (with_reducible repeat (first | refine blk_drewN ?_ _ | refine blk_drew ?_ | refine blk_alloc ?_ _)); refine blk_put (cs := #[.int .i64 0, .int .i64 0, .string (⟨#[]⟩ : ByteArray)]) ?_ 0 _ rfl; (with_reducible repeat (first | refine blk_drewN ?_ _ | refine blk_drew ?_ | refine blk_alloc ?_ _)); exact BK213.out) hb); have n1_ := Aside0.mk (below_step (by repeat (first | (with_reducible first | exact HB.out | apply below_alloc | apply pw_below_drewN | apply below_drew1 | refine below_set ?_ GE213.out) | exact HB.out)) hb); clear BK213; clear HB; have BK213 := n0_; have HB := n1_; clear n0_ n1_; (try clear hb); (try clear hb2); (try clear hk); (try clear hi)) | ((with_reducible refine gate_callee (f := 55) rfl ?_); refine goesL_ (some 15) rfl rfl Tryd.func55 (by kernel_rfl) rfl #[.string (⟨#[97]⟩ : ByteArray)] rfl (by (try simp only [List.map_toArray, List.map_cons, List.map_nil]); first | done | rfl | (simp only [List.length_drop, List.length_take]; rfl)) ?_; (with_reducible refine (value_OfStr.calls (⟨#[97]⟩ : ByteArray) t217 t218 t219 _ A5.out).mono ?_); rintro e w29 ⟨rfl, hb⟩; refine ⟨_, rfl, ?_⟩; have n0_ := Aside0.mk (blk_below (g := gb213) (o := .cells #[.int .i64 t209, .int .i64 t210, .string t211] 32 (0, 0)) (by (with_reducible repeat (first | refine blk_drewN ?_ _ | refine blk_drew ?_ | refine blk_alloc ?_ _)); exact BK213.out) hb); have n1_ := Aside0.mk (below_step (by repeat (first | (with_reducible first | exact HB.out | apply below_alloc | apply pw_below_drewN | apply below_drew1 | refine below_set ?_ GE213.out) | exact HB.out)) hb); clear BK213; clear HB; have BK213 := n0_; have HB := n1_; clear n0_ n1_; (try clear hb); (try clear hb2); (try clear hk); (try clear hi)) | ((with_reducible refine gate_callee (f := 46) rfl ?_); refine goesL_ (some 16) rfl rfl Tryd.func46 (by kernel_rfl) rfl #[.int .i64 11, .agg #[.int .i64 t214, .int .i64 t215, .string t216], .agg #[.int .i64 t217, .int .i64 t218, .string t219], .int .i64 9] rfl (by (try simp only [List.map_toArray, List.map_cons, List.map_nil]); first | done | rfl | (simp only [List.length_drop, List.length_take]; rfl)) ?_; (with_reducible refine (oper_Do.calls k 11 t214 t215 t216 t217 t218 t219 9 t220 t221 t222 t223 _ (HTT.out.on (by repeat (first | (with_reducible first | exact HB.out | apply below_alloc | apply pw_below_drewN | apply below_drew1 | refine below_set ?_ GE213.out) | exact HB.out))) A6.out).mono ?_); rintro e w30 ⟨rfl, hb⟩; refine ⟨_, rfl, ?_⟩; have n0_ := Aside0.mk (blk_below (g := gb213) (o := .cells #[.int .i64 t209, .int .i64 t210, .string t211] 32 (0, 0)) (by (with_reducible repeat (first | refine blk_drewN ?_ _ | refine blk_drew ?_ | refine blk_alloc ?_ _)); exact BK213.out) hb); have n1_ := Aside0.mk (below_step (by repeat (first | (with_reducible first | exact HB.out | apply below_alloc | apply pw_below_drewN | apply below_drew1 | refine below_set ?_ GE213.out) | exact HB.out)) hb); clear BK213; clear HB; have BK213 := n0_; have HB := n1_; clear n0_ n1_; (try clear hb); (try clear hb2); (try clear hk); (try clear hi)) | ((with_reducible refine gate_dst (N := 3) rfl ?_); refine box_event ?hg (N := 3) ?hd (cs := #[.int .i64 0, .int .i64 0, .string (⟨#[]⟩ : ByteArray)]) (t := 32) ?hr ?_; (case hd => rfl); (case hg => rfl); (case hr => first | (go_simp; done) | (go_simp; rfl)); intro gb224 hg w31 hbox hb; have n0_ := Aside0.mk (blk_below (g := gb213) (o := .cells #[.int .i64 t209, .int .i64 t210, .string t211] 32 (0, 0)) (by (with_reducible repeat (first | refine blk_drewN ?_ _ | refine blk_drew ?_ | refine blk_alloc ?_ _)); exact BK213.out) hb); have n1_ := Aside0.mk (below_step (by repeat (first | (with_reducible first | exact HB.out | apply below_alloc | apply pw_below_drewN | apply below_drew1 | refine below_set ?_ GE213.out) | exact HB.out)) hb); have n2_ := Aside0.mk (hbox); have n3_ := Aside0.mk ((by rw [hg]; exact (below_size (by repeat (first | (with_reducible first | exact HB.out | apply below_alloc | apply pw_below_drewN | apply below_drew1 | refine below_set ?_ GE213.out) | exact HB.out))) : w.heap.size ≤ gb224)); have n4_ := Aside0.mk ((by rw [hg]; exact (below_size (by repeat (first | (with_reducible first | exact HB.out | apply below_alloc | apply pw_below_drewN | apply below_drew1 | refine below_set ?_ GE213.out) | exact HB.out))) : w.heap.size ≤ gb224)); have n5_ := Aside0.mk ((by rw [hg]; exact Nat.ne_of_lt (blk_lt (g := gb213) (o := .cells #[.int .i64 t209, .int .i64 t210, .string t211] 32 (0, 0)) (by (with_reducible repeat (first | refine blk_drewN ?_ _ | refine blk_drew ?_ | refine blk_alloc ?_ _)); exact BK213.out)) : gb213 ≠ gb224)); have n6_ := Aside0.mk ((by rw [hg]; exact Nat.ne_of_gt (blk_lt (g := gb213) (o := .cells #[.int .i64 t209, .int .i64 t210, .string t211] 32 (0, 0)) (by (with_reducible repeat (first | refine blk_drewN ?_ _ | refine blk_drew ?_ | refine blk_alloc ?_ _)); exact BK213.out)) : gb224 ≠ gb213)); clear BK213; clear HB; have BK213 := n0_; have HB := n1_; have BK224 := n2_; have GW224 := n3_; have GE224 := n4_; have NB213_224 := n5_; have NB224_213 := n6_; clear n0_ n1_ n2_ n3_ n4_ n5_ n6_; clear hb hbox hg; have hnb32 := NB224_213.out; have hnc32 := NB213_224.out; have hcz33_0 : w31.cell? ⟨gb224, 0, none⟩ = some (.int .i64 0) := (blk_cell BK224.out 0).trans rfl; have hcz33_1 : w31.cell? ⟨gb224, 1, none⟩ = some (.int .i64 0) := (blk_cell BK224.out 1).trans rfl; have hcz33_2 : w31.cell? ⟨gb224, 2, none⟩ = some (.string (⟨#[]⟩ : ByteArray)) := (blk_cell BK224.out 2).trans rfl; have hfz33_0 := blk_frozen BK224.out 0; have hfz33_1 := blk_frozen BK224.out 1; have hfz33_2 := blk_frozen BK224.out 2) | ((with_reducible refine gate_callee (f := 53) rfl ?_); refine goesL_ (some 20) rfl rfl Tryd.func53 (by kernel_rfl) rfl #[.int .i64 1] rfl (by (try simp only [List.map_toArray, List.map_cons, List.map_nil]); first | done | rfl | (simp only [List.length_drop, List.length_take]; rfl)) ?_; (with_reducible refine (value_OfInt.calls 1 t225 t226 t227 _ A7.out).mono ?_); rintro e w34 ⟨rfl, hb⟩; refine ⟨_, rfl, ?_⟩; have n0_ := Aside0.mk (blk_below (g := gb213) (o := .cells #[.int .i64 t209, .int .i64 t210, .string t211] 32 (0, 0)) (by (with_reducible repeat (first | refine blk_drewN ?_ _ | refine blk_drew ?_ | refine blk_alloc ?_ _)); refine blk_far ?_ NB213_224.out _; (with_reducible repeat (first | refine blk_drewN ?_ _ | refine blk_drew ?_ | refine blk_alloc ?_ _)); refine blk_far ?_ NB213_224.out _; (with_reducible repeat (first | refine blk_drewN ?_ _ | refine blk_drew ?_ | refine blk_alloc ?_ _)); refine blk_far ?_ NB213_224.out _; (with_reducible repeat (first | refine blk_drewN ?_ _ | refine blk_drew ?_ | refine blk_alloc ?_ _)); exact BK213.out) hb); have n1_ := Aside0.mk (blk_below (g := gb224) (o := .cells #[.int .i64 t220, .int .i64 t221, .string t222] 32 (0, 0)) (by (with_reducible repeat (first | refine blk_drewN ?_ _ | refine blk_drew ?_ | refine blk_alloc ?_ _)); refine blk_put (cs := #[.int .i64 t220, .int .i64 t221, .string (⟨#[]⟩ : ByteArray)]) ?_ 2 _ rfl; (with_reducible repeat (first | refine blk_drewN ?_ _ | refine blk_drew ?_ | refine blk_alloc ?_ _)); refine blk_put (cs := #[.int .i64 t220, .int .i64 0, .string (⟨#[]⟩ : ByteArray)]) ?_ 1 _ rfl; (with_reducible repeat (first | refine blk_drewN ?_ _ | refine blk_drew ?_ | refine blk_alloc ?_ _)); refine blk_put (cs := #[.int .i64 0, .int .i64 0, .string (⟨#[]⟩ : ByteArray)]) ?_ 0 _ rfl; (with_reducible repeat (first | refine blk_drewN ?_ _ | refine blk_drew ?_ | refine blk_alloc ?_ _)); exact BK224.out) hb); have n2_ := Aside0.mk (below_step (by repeat (first | (with_reducible first | exact HB.out | apply below_alloc | apply pw_below_drewN | apply below_drew1 | refine below_set ?_ GE213.out | refine below_set ?_ GE224.out) | exact HB.out)) hb); clear BK213; clear BK224; clear HB; have BK213 := n0_; have BK224 := n1_; have HB := n2_; clear n0_ n1_ n2_; (try clear hb); (try clear hb2); (try clear hk); (try clear hi)) | ((with_reducible refine gate_callee (f := 55) rfl ?_); refine goesL_ (some 21) rfl rfl Tryd.func55 (by kernel_rfl) rfl #[.string (⟨#[97]⟩ : ByteArray)] rfl (by (try simp only [List.map_toArray, List.map_cons, List.map_nil]); first | done | rfl | (simp only [List.length_drop, List.length_take]; rfl)) ?_; (with_reducible refine (value_OfStr.calls (⟨#[97]⟩ : ByteArray) t228 t229 t230 _ A8.out).mono ?_); rintro e w35 ⟨rfl, hb⟩; refine ⟨_, rfl, ?_⟩; have n0_ := Aside0.mk (blk_below (g := gb213) (o := .cells #[.int .i64 t209, .int .i64 t210, .string t211] 32 (0, 0)) (by (with_reducible repeat (first | refine blk_drewN ?_ _ | refine blk_drew ?_ | refine blk_alloc ?_ _)); exact BK213.out) hb); have n1_ := Aside0.mk (blk_below (g := gb224) (o := .cells #[.int .i64 t220, .int .i64 t221, .string t222] 32 (0, 0)) (by (with_reducible repeat (first | refine blk_drewN ?_ _ | refine blk_drew ?_ | refine blk_alloc ?_ _)); exact BK224.out) hb); have n2_ := Aside0.mk (below_step (by repeat (first | (with_reducible first | exact HB.out | apply below_alloc | apply pw_below_drewN | apply below_drew1 | refine below_set ?_ GE213.out | refine below_set ?_ GE224.out) | exact HB.out)) hb); clear BK213; clear BK224; clear HB; have BK213 := n0_; have BK224 := n1_; have HB := n2_; clear n0_ n1_ n2_; (try clear hb); (try clear hb2); (try clear hk); (try clear hi)) | ((with_reducible refine gate_callee (f := 46) rfl ?_); refine goesL_ (some 22) rfl rfl Tryd.func46 (by kernel_rfl) rfl #[.int .i64 14, .agg #[.int .i64 t225, .int .i64 t226, .string t227], .agg #[.int .i64 t228, .int .i64 t229, .string t230], .int .i64 9] rfl (by (try simp only [List.map_toArray, List.map_cons, List.map_nil]); first | done | rfl | (simp only [List.length_drop, List.length_take]; rfl)) ?_; (with_reducible refine (oper_Do.calls k 14 t225 t226 t227 t228 t229 t230 9 t231 t232 t233 t234 _ (HTT.out.on (by repeat (first | (with_reducible first | exact HB.out | apply below_alloc | apply pw_below_drewN | apply below_drew1 | refine below_set ?_ GE213.out | refine below_set ?_ GE224.out) | exact HB.out))) A9.out).mono ?_); rintro e w36 ⟨rfl, hb⟩; refine ⟨_, rfl, ?_⟩; have n0_ := Aside0.mk (blk_below (g := gb213) (o := .cells #[.int .i64 t209, .int .i64 t210, .string t211] 32 (0, 0)) (by (with_reducible repeat (first | refine blk_drewN ?_ _ | refine blk_drew ?_ | refine blk_alloc ?_ _)); exact BK213.out) hb); have n1_ := Aside0.mk (blk_below (g := gb224) (o := .cells #[.int .i64 t220, .int .i64 t221, .string t222] 32 (0, 0)) (by (with_reducible repeat (first | refine blk_drewN ?_ _ | refine blk_drew ?_ | refine blk_alloc ?_ _)); exact BK224.out) hb); have n2_ := Aside0.mk (below_step (by repeat (first | (with_reducible first | exact HB.out | apply below_alloc | apply pw_below_drewN | apply below_drew1 | refine below_set ?_ GE213.out | refine below_set ?_ GE224.out) | exact HB.out)) hb); clear BK213; clear BK224; clear HB; have BK213 := n0_; have BK224 := n1_; have HB := n2_; clear n0_ n1_ n2_; (try clear hb); (try clear hb2); (try clear hk); (try clear hi)) | ((with_reducible refine gate_dst (N := 5) rfl ?_); refine box_event ?hg (N := 5) ?hd (cs := #[.int .i64 0, .int .i64 0, .string (⟨#[]⟩ : ByteArray)]) (t := 32) ?hr ?_; (case hd => rfl); (case hg => rfl); (case hr => first | (go_simp; done) | (go_simp; rfl)); intro gb235 hg w37 hbox hb; have n0_ := Aside0.mk (blk_below (g := gb213) (o := .cells #[.int .i64 t209, .int .i64 t210, .string t211] 32 (0, 0)) (by (with_reducible repeat (first | refine blk_drewN ?_ _ | refine blk_drew ?_ | refine blk_alloc ?_ _)); exact BK213.out) hb); have n1_ := Aside0.mk (blk_below (g := gb224) (o := .cells #[.int .i64 t220, .int .i64 t221, .string t222] 32 (0, 0)) (by (with_reducible repeat (first | refine blk_drewN ?_ _ | refine blk_drew ?_ | refine blk_alloc ?_ _)); exact BK224.out) hb); have n2_ := Aside0.mk (below_step (by repeat (first | (with_reducible first | exact HB.out | apply below_alloc | apply pw_below_drewN | apply below_drew1 | refine below_set ?_ GE213.out | refine below_set ?_ GE224.out) | exact HB.out)) hb); have n3_ := Aside0.mk (hbox); have n4_ := Aside0.mk ((by rw [hg]; exact (below_size (by repeat (first | (with_reducible first | exact HB.out | apply below_alloc | apply pw_below_drewN | apply below_drew1 | refine below_set ?_ GE213.out | refine below_set ?_ GE224.out) | exact HB.out))) : w.heap.size ≤ gb235)); have n5_ := Aside0.mk ((by rw [hg]; exact (below_size (by repeat (first | (with_reducible first | exact HB.out | apply below_alloc | apply pw_below_drewN | apply below_drew1 | refine below_set ?_ GE213.out | refine below_set ?_ GE224.out) | exact HB.out))) : w.heap.size ≤ gb235)); have n6_ := Aside0.mk ((by rw [hg]; exact Nat.ne_of_lt (blk_lt (g := gb213) (o := .cells #[.int .i64 t209, .int .i64 t210, .string t211] 32 (0, 0)) (by (with_reducible repeat (first | refine blk_drewN ?_ _ | refine blk_drew ?_ | refine blk_alloc ?_ _)); exact BK213.out)) : gb213 ≠ gb235)); have n7_ := Aside0.mk ((by rw [hg]; exact Nat.ne_of_gt (blk_lt (g := gb213) (o := .cells #[.int .i64 t209, .int .i64 t210, .string t211] 32 (0, 0)) (by (with_reducible repeat (first | refine blk_drewN ?_ _ | refine blk_drew ?_ | refine blk_alloc ?_ _)); exact BK213.out)) : gb235 ≠ gb213)); have n8_ := Aside0.mk ((by rw [hg]; exact Nat.ne_of_lt (blk_lt (g := gb224) (o := .cells #[.int .i64 t220, .int .i64 t221, .string t222] 32 (0, 0)) (by (with_reducible repeat (first | refine blk_drewN ?_ _ | refine blk_drew ?_ | refine blk_alloc ?_ _)); exact BK224.out)) : gb224 ≠ gb235)); have n9_ := Aside0.mk ((by rw [hg]; exact Nat.ne_of_gt (blk_lt (g := gb224) (o := .cells #[.int .i64 t220, .int .i64 t221, .string t222] 32 (0, 0)) (by (with_reducible repeat (first | refine blk_drewN ?_ _ | refine blk_drew ?_ | refine blk_alloc ?_ _)); exact BK224.out)) : gb235 ≠ gb224)); clear BK213; clear BK224; clear HB; have BK213 := n0_; have BK224 := n1_; have HB := n2_; have BK235 := n3_; have GW235 := n4_; have GE235 := n5_; have NB213_235 := n6_; have NB235_213 := n7_; have NB224_235 := n8_; have NB235_224 := n9_; clear n0_ n1_ n2_ n3_ n4_ n5_ n6_ n7_ n8_ n9_; clear hb hbox hg; have hnb38 := NB235_213.out; have hnc38 := NB213_235.out; have hnb39 := NB235_224.out; have hnc39 := NB224_235.out; have hcz40_0 : w37.cell? ⟨gb235, 0, none⟩ = some (.int .i64 0) := (blk_cell BK235.out 0).trans rfl; have hcz40_1 : w37.cell? ⟨gb235, 1, none⟩ = some (.int .i64 0) := (blk_cell BK235.out 1).trans rfl; have hcz40_2 : w37.cell? ⟨gb235, 2, none⟩ = some (.string (⟨#[]⟩ : ByteArray)) := (blk_cell BK235.out 2).trans rfl; have hfz40_0 := blk_frozen BK235.out 0; have hfz40_1 := blk_frozen BK235.out 1; have hfz40_2 := blk_frozen BK235.out 2))
              have n0_ : Aside0 ((((w37.setCell ⟨gb235, 0, none⟩ (.int .i64 t231)).setCell ⟨gb235, 1, none⟩ (.int .i64 t232)).setCell ⟨gb235, 2, none⟩ (.string t233)).heap[gb213]? = some (.cells #[.int .i64 t209, .int .i64 t210, .string t211] 32 (0, 0))) := ⟨by (with_reducible repeat (first | refine blk_drewN ?_ _ | refine blk_drew ?_ | refine blk_alloc ?_ _)); refine blk_far ?_ NB213_235.out _; (with_reducible repeat (first | refine blk_drewN ?_ _ | refine blk_drew ?_ | refine blk_alloc ?_ _)); refine blk_far ?_ NB213_235.out _; (with_reducible repeat (first | refine blk_drewN ?_ _ | refine blk_drew ?_ | refine blk_alloc ?_ _)); refine blk_far ?_ NB213_235.out _; (with_reducible repeat (first | refine blk_drewN ?_ _ | refine blk_drew ?_ | refine blk_alloc ?_ _)); exact BK213.out⟩
              have n1_ : Aside0 ((((w37.setCell ⟨gb235, 0, none⟩ (.int .i64 t231)).setCell ⟨gb235, 1, none⟩ (.int .i64 t232)).setCell ⟨gb235, 2, none⟩ (.string t233)).heap[gb224]? = some (.cells #[.int .i64 t220, .int .i64 t221, .string t222] 32 (0, 0))) := ⟨by (with_reducible repeat (first | refine blk_drewN ?_ _ | refine blk_drew ?_ | refine blk_alloc ?_ _)); refine blk_far ?_ NB224_235.out _; (with_reducible repeat (first | refine blk_drewN ?_ _ | refine blk_drew ?_ | refine blk_alloc ?_ _)); refine blk_far ?_ NB224_235.out _; (with_reducible repeat (first | refine blk_drewN ?_ _ | refine blk_drew ?_ | refine blk_alloc ?_ _)); refine blk_far ?_ NB224_235.out _; (with_reducible repeat (first | refine blk_drewN ?_ _ | refine blk_drew ?_ | refine blk_alloc ?_ _)); exact BK224.out⟩
              have n2_ : Aside0 ((((w37.setCell ⟨gb235, 0, none⟩ (.int .i64 t231)).setCell ⟨gb235, 1, none⟩ (.int .i64 t232)).setCell ⟨gb235, 2, none⟩ (.string t233)).heap[gb235]? = some (.cells #[.int .i64 t231, .int .i64 t232, .string t233] 32 (0, 0))) := ⟨by (with_reducible repeat (first | refine blk_drewN ?_ _ | refine blk_drew ?_ | refine blk_alloc ?_ _)); refine blk_put (cs := #[.int .i64 t231, .int .i64 t232, .string (⟨#[]⟩ : ByteArray)]) ?_ 2 _ rfl; (with_reducible repeat (first | refine blk_drewN ?_ _ | refine blk_drew ?_ | refine blk_alloc ?_ _)); refine blk_put (cs := #[.int .i64 t231, .int .i64 0, .string (⟨#[]⟩ : ByteArray)]) ?_ 1 _ rfl; (with_reducible repeat (first | refine blk_drewN ?_ _ | refine blk_drew ?_ | refine blk_alloc ?_ _)); refine blk_put (cs := #[.int .i64 0, .int .i64 0, .string (⟨#[]⟩ : ByteArray)]) ?_ 0 _ rfl; (with_reducible repeat (first | refine blk_drewN ?_ _ | refine blk_drew ?_ | refine blk_alloc ?_ _)); exact BK235.out⟩
              have n3_ : Aside0 (Below w.heap.size w (((w37.setCell ⟨gb235, 0, none⟩ (.int .i64 t231)).setCell ⟨gb235, 1, none⟩ (.int .i64 t232)).setCell ⟨gb235, 2, none⟩ (.string t233))) := ⟨by repeat (first | (with_reducible first | exact HB.out | apply below_alloc | apply pw_below_drewN | apply below_drew1 | refine below_set ?_ GE213.out | refine below_set ?_ GE224.out | refine below_set ?_ GE235.out) | exact HB.out)⟩
              (try clear BK213)
              (try clear BK224)
              (try clear BK235)
              (try clear HB)
              generalize (((w37.setCell ⟨gb235, 0, none⟩ (.int .i64 t231)).setCell ⟨gb235, 1, none⟩ (.int .i64 t232)).setCell ⟨gb235, 2, none⟩ (.string t233)) = w41 at n0_ n1_ n2_ n3_ ⊢
              have BK213 := n0_
              have BK224 := n1_
              have BK235 := n2_
              have HB := n3_
              clear n0_ n1_ n2_ n3_
              have n0_ := Aside0.mk (blk_drew BK213.out)
              have n1_ := Aside0.mk (blk_drew BK224.out)
              have n2_ := Aside0.mk (blk_drew BK235.out)
              have n3_ := Aside0.mk (below_drew1 HB.out)
              clear BK213
              clear BK224
              clear BK235
              clear HB
              have BK213 := n0_
              have BK224 := n1_
              have BK235 := n2_
              have HB := n3_
              clear n0_ n1_ n2_ n3_
              refine start_ (n := 31) (S := fun w' => w'.cell? ⟨gb213, 0, none⟩ = some (.int .i64 t209) ∧ w'.cell? ⟨gb213, 1, none⟩ = some (.int .i64 t210) ∧ w'.cell? ⟨gb213, 2, none⟩ = some (.string t211) ∧ w'.cell? ⟨gb224, 0, none⟩ = some (.int .i64 t220) ∧ w'.cell? ⟨gb224, 1, none⟩ = some (.int .i64 t221) ∧ w'.cell? ⟨gb224, 2, none⟩ = some (.string t222)) (ds := []) #[false, false, false, false, false, false, false, false, false, false, false, false, false, false, false, false, false, false, false, false, false, false, false, false, false, false, false, false, false, false, false] (by kernel_rfl) rfl rfl ⟨(blk_cell BK213.out 0).trans rfl, (blk_cell BK213.out 1).trans rfl, (blk_cell BK213.out 2).trans rfl, (blk_cell BK224.out 0).trans rfl, (blk_cell BK224.out 1).trans rfl, (blk_cell BK224.out 2).trans rfl⟩ (fun hHeld => ?_); refine with_tabW selkielaw11_alive.tab4 selkielaw11_alive.bits4 (fun HT_ HW_ => ?_)
              generalize w41.drew = w42 at BK213 BK224 BK235 HB hHeld ⊢
              refine take_ (i := 0) (N := some 25) (v := ?_) (a' := ?_) #[true, false, false, false, false, false, false, false, false, false, false, false, false, false, false, false, false, false, false, false, false, false, false, false, false, false, false, false, false, false, false] rfl rfl (take_ofW HT_.out HW_.out (by kernel_rfl)) (fun _ _ _ h => h) (Or.inl ⟨by rfl, ?_⟩) hHeld ?_ ?_
              rotate_left
              · rintro w' ⟨s0, s1, s2, s3, s4, s5⟩
                go_simp
                with_reducible rfl
              rotate_left
              · simp only [Act.put, List.setIfInBounds_toArray, List.set_cons_zero, List.set_cons_succ, i64_w, i32_w]
                rfl
              refine one_ (i := 1) (N := some 26) #[true, true, false, false, false, false, false, false, false, false, false, false, false, false, false, false, false, false, false, false, false, false, false, false, false, false, false, false, false, false, false] rfl rfl (one_of HT_.out (by kernel_rfl)) (by decide) (fun K hK => ?_)
              refine goes_ Tryd.func53 (by kernel_rfl) rfl #[.int .i64 11] (by rfl) rfl rfl (by (try simp only [List.map_toArray, List.map_cons, List.map_nil]); first | done | rfl | (simp only [List.length_drop, List.length_take]; rfl)) ?_
              with_reducible refine (value_OfInt.calls 11 t236 t237 t238 _ A10.out).mono ?_
              rintro e w43 ⟨rfl, hb⟩
              refine ⟨_, rfl, ?_⟩
              have n0_ := Aside0.mk (blk_below (g := gb213) (o := .cells #[.int .i64 t209, .int .i64 t210, .string t211] 32 (0, 0)) (by (with_reducible repeat (first | refine blk_drewN ?_ _ | refine blk_drew ?_ | refine blk_alloc ?_ _)); exact BK213.out) hb)
              have n1_ := Aside0.mk (blk_below (g := gb224) (o := .cells #[.int .i64 t220, .int .i64 t221, .string t222] 32 (0, 0)) (by (with_reducible repeat (first | refine blk_drewN ?_ _ | refine blk_drew ?_ | refine blk_alloc ?_ _)); exact BK224.out) hb)
              have n2_ := Aside0.mk (blk_below (g := gb235) (o := .cells #[.int .i64 t231, .int .i64 t232, .string t233] 32 (0, 0)) (by (with_reducible repeat (first | refine blk_drewN ?_ _ | refine blk_drew ?_ | refine blk_alloc ?_ _)); exact BK235.out) hb)
              have n3_ := Aside0.mk (below_step (by repeat (first | (with_reducible first | exact HB.out | apply below_alloc | apply pw_below_drewN | apply below_drew1 | refine below_set ?_ GE213.out | refine below_set ?_ GE224.out | refine below_set ?_ GE235.out) | exact HB.out)) hb)
              clear BK213
              clear BK224
              clear BK235
              clear HB
              have BK213 := n0_
              have BK224 := n1_
              have BK235 := n2_
              have HB := n3_
              clear n0_ n1_ n2_ n3_
              (try clear hb)
              (try clear hb2)
              (try clear hk)
              (try clear hi)
              refine hK.out _ _ ⟨(blk_cell BK213.out 0).trans rfl, (blk_cell BK213.out 1).trans rfl, (blk_cell BK213.out 2).trans rfl, (blk_cell BK224.out 0).trans rfl, (blk_cell BK224.out 1).trans rfl, (blk_cell BK224.out 2).trans rfl⟩ (fun hHeld => ?_)
              clear hK K
              refine norm_ (a' := ?_) ?_ ?_
              rotate_left
              · show Act.put _ (some 26) _ = _
                simp only [Act.put, List.setIfInBounds_toArray, List.set_cons_zero, List.set_cons_succ, i64_w, i32_w]
                rfl
              refine pure_ (i := 2) (N := some 27) (v := ?_) (a' := ?_) #[true, true, true, false, false, false, false, false, false, false, false, false, false, false, false, false, false, false, false, false, false, false, false, false, false, false, false, false, false, false, false] rfl rfl (any_of HT_.out (by kernel_rfl)) (fun _ _ _ h => h) (Or.inl ⟨by rfl, ?_⟩) ?_ ?_
              rotate_left
              · intro w'
                go_simp
                with_reducible rfl
              rotate_left
              · simp only [Act.put, List.setIfInBounds_toArray, List.set_cons_zero, List.set_cons_succ, i64_w, i32_w]
                rfl
              refine pure_ (i := 3) (N := some 28) (v := ?_) (a' := ?_) #[true, true, true, true, false, false, false, false, false, false, false, false, false, false, false, false, false, false, false, false, false, false, false, false, false, false, false, false, false, false, false] rfl rfl (any_of HT_.out (by kernel_rfl)) (fun _ _ _ h => h) (Or.inl ⟨by rfl, ?_⟩) ?_ ?_
              rotate_left
              · intro w'
                go_simp
                with_reducible rfl
              rotate_left
              · simp only [Act.put, List.setIfInBounds_toArray, List.set_cons_zero, List.set_cons_succ, i64_w, i32_w]
                rfl
              refine pure_ (i := 4) (N := some 29) (v := ?_) (a' := ?_) #[true, true, true, true, true, false, false, false, false, false, false, false, false, false, false, false, false, false, false, false, false, false, false, false, false, false, false, false, false, false, false] rfl rfl (any_of HT_.out (by kernel_rfl)) (fun _ _ _ h => h) (Or.inl ⟨by rfl, ?_⟩) ?_ ?_
              rotate_left
              · intro w'
                go_simp
                with_reducible rfl
              rotate_left
              · simp only [Act.put, List.setIfInBounds_toArray, List.set_cons_zero, List.set_cons_succ, i64_w, i32_w]
                rfl
              refine pure_ (i := 5) (N := some 30) (v := ?_) (a' := ?_) #[true, true, true, true, true, true, false, false, false, false, false, false, false, false, false, false, false, false, false, false, false, false, false, false, false, false, false, false, false, false, false] rfl rfl (any_of HT_.out (by kernel_rfl)) (fun _ _ _ h => h) (Or.inl ⟨by rfl, ?_⟩) ?_ ?_
              rotate_left
              · intro w'
                go_simp
                with_reducible rfl
              rotate_left
              · simp only [Act.put, List.setIfInBounds_toArray, List.set_cons_zero, List.set_cons_succ, i64_w, i32_w]
                rfl
              refine pure_ (i := 6) (N := some 31) (v := ?_) (a' := ?_) #[true, true, true, true, true, true, true, false, false, false, false, false, false, false, false, false, false, false, false, false, false, false, false, false, false, false, false, false, false, false, false] rfl rfl (any_of HT_.out (by kernel_rfl)) (fun _ _ _ h => h) (Or.inl ⟨by rfl, ?_⟩) ?_ ?_
              rotate_left
              · intro w'
                go_simp
                with_reducible rfl
              rotate_left
              · simp only [Act.put, List.setIfInBounds_toArray, List.set_cons_zero, List.set_cons_succ, i64_w, i32_w]
                rfl
              refine pure_ (i := 7) (N := some 32) (v := ?_) (a' := ?_) #[true, true, true, true, true, true, true, true, false, false, false, false, false, false, false, false, false, false, false, false, false, false, false, false, false, false, false, false, false, false, false] rfl rfl (any_of HT_.out (by kernel_rfl)) (fun _ _ _ h => h) (Or.inl ⟨by rfl, ?_⟩) ?_ ?_
              rotate_left
              · intro w'
                go_simp
                with_reducible rfl
              rotate_left
              · simp only [Act.put, List.setIfInBounds_toArray, List.set_cons_zero, List.set_cons_succ, i64_w, i32_w]
                rfl
              refine take_ (i := 8) (N := some 33) (v := ?_) (a' := ?_) #[true, true, true, true, true, true, true, true, true, false, false, false, false, false, false, false, false, false, false, false, false, false, false, false, false, false, false, false, false, false, false] rfl rfl (take_ofW HT_.out HW_.out (by kernel_rfl)) (fun _ _ _ h => h) (Or.inl ⟨by rfl, ?_⟩) hHeld ?_ ?_
              rotate_left
              · rintro w' ⟨s0, s1, s2, s3, s4, s5⟩
                go_simp
                with_reducible rfl
              rotate_left
              · simp only [Act.put, List.setIfInBounds_toArray, List.set_cons_zero, List.set_cons_succ, i64_w, i32_w]
                rfl
              refine one_ (i := 9) (N := some 34) #[true, true, true, true, true, true, true, true, true, true, false, false, false, false, false, false, false, false, false, false, false, false, false, false, false, false, false, false, false, false, false] rfl rfl (one_of HT_.out (by kernel_rfl)) (by decide) (fun K hK => ?_)
              refine goes_ Tryd.func55 (by kernel_rfl) rfl #[.string (⟨#[49, 97]⟩ : ByteArray)] (by rfl) rfl rfl (by (try simp only [List.map_toArray, List.map_cons, List.map_nil]); first | done | rfl | (simp only [List.length_drop, List.length_take]; rfl)) ?_
              with_reducible refine (value_OfStr.calls (⟨#[49, 97]⟩ : ByteArray) t239 t240 t241 _ A13.out).mono ?_
              rintro e w44 ⟨rfl, hb⟩
              refine ⟨_, rfl, ?_⟩
              have n0_ := Aside0.mk (blk_below (g := gb213) (o := .cells #[.int .i64 t209, .int .i64 t210, .string t211] 32 (0, 0)) (by (with_reducible repeat (first | refine blk_drewN ?_ _ | refine blk_drew ?_ | refine blk_alloc ?_ _)); exact BK213.out) hb)
              have n1_ := Aside0.mk (blk_below (g := gb224) (o := .cells #[.int .i64 t220, .int .i64 t221, .string t222] 32 (0, 0)) (by (with_reducible repeat (first | refine blk_drewN ?_ _ | refine blk_drew ?_ | refine blk_alloc ?_ _)); exact BK224.out) hb)
              have n2_ := Aside0.mk (blk_below (g := gb235) (o := .cells #[.int .i64 t231, .int .i64 t232, .string t233] 32 (0, 0)) (by (with_reducible repeat (first | refine blk_drewN ?_ _ | refine blk_drew ?_ | refine blk_alloc ?_ _)); exact BK235.out) hb)
              have n3_ := Aside0.mk (below_step (by repeat (first | (with_reducible first | exact HB.out | apply below_alloc | apply pw_below_drewN | apply below_drew1 | refine below_set ?_ GE213.out | refine below_set ?_ GE224.out | refine below_set ?_ GE235.out) | exact HB.out)) hb)
              clear BK213
              clear BK224
              clear BK235
              clear HB
              have BK213 := n0_
              have BK224 := n1_
              have BK235 := n2_
              have HB := n3_
              clear n0_ n1_ n2_ n3_
              (try clear hb)
              (try clear hb2)
              (try clear hk)
              (try clear hi)
              refine hK.out _ _ ⟨(blk_cell BK213.out 0).trans rfl, (blk_cell BK213.out 1).trans rfl, (blk_cell BK213.out 2).trans rfl, (blk_cell BK224.out 0).trans rfl, (blk_cell BK224.out 1).trans rfl, (blk_cell BK224.out 2).trans rfl⟩ (fun hHeld => ?_)
              clear hK K
              refine norm_ (a' := ?_) ?_ ?_
              rotate_left
              · show Act.put _ (some 34) _ = _
                simp only [Act.put, List.setIfInBounds_toArray, List.set_cons_zero, List.set_cons_succ, i64_w, i32_w]
                rfl
              refine pure_ (i := 10) (N := some 35) (v := ?_) (a' := ?_) #[true, true, true, true, true, true, true, true, true, true, true, false, false, false, false, false, false, false, false, false, false, false, false, false, false, false, false, false, false, false, false] rfl rfl (any_of HT_.out (by kernel_rfl)) (fun _ _ _ h => h) (Or.inl ⟨by rfl, ?_⟩) ?_ ?_
              rotate_left
              · intro w'
                go_simp
                with_reducible rfl
              rotate_left
              · simp only [Act.put, List.setIfInBounds_toArray, List.set_cons_zero, List.set_cons_succ, i64_w, i32_w]
                rfl
              refine pure_ (i := 11) (N := some 36) (v := ?_) (a' := ?_) #[true, true, true, true, true, true, true, true, true, true, true, true, false, false, false, false, false, false, false, false, false, false, false, false, false, false, false, false, false, false, false] rfl rfl (any_of HT_.out (by kernel_rfl)) (fun _ _ _ h => h) (Or.inl ⟨by rfl, ?_⟩) ?_ ?_
              rotate_left
              · intro w'
                go_simp
                with_reducible rfl
              rotate_left
              · simp only [Act.put, List.setIfInBounds_toArray, List.set_cons_zero, List.set_cons_succ, i64_w, i32_w]
                rfl
              refine pure_ (i := 12) (N := some 37) (v := ?_) (a' := ?_) #[true, true, true, true, true, true, true, true, true, true, true, true, true, false, false, false, false, false, false, false, false, false, false, false, false, false, false, false, false, false, false] rfl rfl (any_of HT_.out (by kernel_rfl)) (fun _ _ _ h => h) (Or.inl ⟨by rfl, ?_⟩) ?_ ?_
              rotate_left
              · intro w'
                go_simp
                with_reducible rfl
              rotate_left
              · simp only [Act.put, List.setIfInBounds_toArray, List.set_cons_zero, List.set_cons_succ, i64_w, i32_w]
                rfl
              refine pure_ (i := 13) (N := some 38) (v := ?_) (a' := ?_) #[true, true, true, true, true, true, true, true, true, true, true, true, true, true, false, false, false, false, false, false, false, false, false, false, false, false, false, false, false, false, false] rfl rfl (any_of HT_.out (by kernel_rfl)) (fun _ _ _ h => h) (Or.inl ⟨by rfl, ?_⟩) ?_ ?_
              rotate_left
              · intro w'
                go_simp
                with_reducible rfl
              rotate_left
              · simp only [Act.put, List.setIfInBounds_toArray, List.set_cons_zero, List.set_cons_succ, i64_w, i32_w]
                rfl
              refine pure_ (i := 14) (N := some 39) (v := ?_) (a' := ?_) #[true, true, true, true, true, true, true, true, true, true, true, true, true, true, true, false, false, false, false, false, false, false, false, false, false, false, false, false, false, false, false] rfl rfl (any_of HT_.out (by kernel_rfl)) (fun _ _ _ h => h) (Or.inl ⟨by rfl, ?_⟩) ?_ ?_
              rotate_left
              · intro w'
                go_simp
                with_reducible rfl
              rotate_left
              · simp only [Act.put, List.setIfInBounds_toArray, List.set_cons_zero, List.set_cons_succ, i64_w, i32_w]
                rfl
              refine pure_ (i := 15) (N := some 40) (v := ?_) (a' := ?_) #[true, true, true, true, true, true, true, true, true, true, true, true, true, true, true, true, false, false, false, false, false, false, false, false, false, false, false, false, false, false, false] rfl rfl (any_of HT_.out (by kernel_rfl)) (fun _ _ _ h => h) (Or.inl ⟨by rfl, ?_⟩) ?_ ?_
              rotate_left
              · intro w'
                go_simp
                with_reducible rfl
              rotate_left
              · simp only [Act.put, List.setIfInBounds_toArray, List.set_cons_zero, List.set_cons_succ, i64_w, i32_w]
                rfl
              refine pure_ (i := 16) (N := some 41) (v := ?_) (a' := ?_) #[true, true, true, true, true, true, true, true, true, true, true, true, true, true, true, true, true, false, false, false, false, false, false, false, false, false, false, false, false, false, false] rfl rfl (any_of HT_.out (by kernel_rfl)) (fun _ _ _ h => h) (Or.inl ⟨by rfl, ?_⟩) ?_ ?_
              rotate_left
              · intro w'
                go_simp
                with_reducible rfl
              rotate_left
              · simp only [Act.put, List.setIfInBounds_toArray, List.set_cons_zero, List.set_cons_succ, i64_w, i32_w]
                rfl
              refine pure_ (i := 17) (N := some 42) (v := ?_) (a' := ?_) #[true, true, true, true, true, true, true, true, true, true, true, true, true, true, true, true, true, true, false, false, false, false, false, false, false, false, false, false, false, false, false] rfl rfl (any_of HT_.out (by kernel_rfl)) (fun _ _ _ h => h) (Or.inl ⟨by rfl, ?_⟩) ?_ ?_
              rotate_left
              · intro w'
                go_simp
                with_reducible rfl
              rotate_left
              · simp only [Act.put, List.setIfInBounds_toArray, List.set_cons_zero, List.set_cons_succ, i64_w, i32_w]
                rfl
              refine pure_ (i := 18) (N := some 43) (v := ?_) (a' := ?_) #[true, true, true, true, true, true, true, true, true, true, true, true, true, true, true, true, true, true, true, false, false, false, false, false, false, false, false, false, false, false, false] rfl rfl (any_of HT_.out (by kernel_rfl)) (fun _ _ _ h => h) (Or.inl ⟨by rfl, ?_⟩) ?_ ?_
              rotate_left
              · intro w'
                go_simp
                with_reducible rfl
              rotate_left
              · simp only [Act.put, List.setIfInBounds_toArray, List.set_cons_zero, List.set_cons_succ, i64_w, i32_w]
                rfl
              refine pure_ (i := 19) (N := some 44) (v := ?_) (a' := ?_) #[true, true, true, true, true, true, true, true, true, true, true, true, true, true, true, true, true, true, true, true, false, false, false, false, false, false, false, false, false, false, false] rfl rfl (any_of HT_.out (by kernel_rfl)) (fun _ _ _ h => h) (Or.inl ⟨by rfl, ?_⟩) ?_ ?_
              rotate_left
              · intro w'
                go_simp
                with_reducible rfl
              rotate_left
              · simp only [Act.put, List.setIfInBounds_toArray, List.set_cons_zero, List.set_cons_succ, i64_w, i32_w]
                rfl
              refine pure_ (i := 20) (N := some 45) (v := ?_) (a' := ?_) #[true, true, true, true, true, true, true, true, true, true, true, true, true, true, true, true, true, true, true, true, true, false, false, false, false, false, false, false, false, false, false] rfl rfl (any_of HT_.out (by kernel_rfl)) (fun _ _ _ h => h) (Or.inl ⟨by rfl, ?_⟩) ?_ ?_
              rotate_left
              · intro w'
                go_simp
                with_reducible rfl
              rotate_left
              · simp only [Act.put, List.setIfInBounds_toArray, List.set_cons_zero, List.set_cons_succ, i64_w, i32_w]
                rfl
              refine one_ (i := 21) (N := some 46) #[true, true, true, true, true, true, true, true, true, true, true, true, true, true, true, true, true, true, true, true, true, true, false, false, false, false, false, false, false, false, false] rfl rfl (one_of HT_.out (by kernel_rfl)) (by decide) (fun K hK => ?_)
              refine goes_ Tryd.func53 (by kernel_rfl) rfl #[.int .i64 1] (by rfl) rfl rfl (by (try simp only [List.map_toArray, List.map_cons, List.map_nil]); first | done | rfl | (simp only [List.length_drop, List.length_take]; rfl)) ?_
              with_reducible refine (value_OfInt.calls 1 t242 t243 t244 _ A17.out).mono ?_
              rintro e w45 ⟨rfl, hb⟩
              refine ⟨_, rfl, ?_⟩
              have n0_ := Aside0.mk (blk_below (g := gb213) (o := .cells #[.int .i64 t209, .int .i64 t210, .string t211] 32 (0, 0)) (by (with_reducible repeat (first | refine blk_drewN ?_ _ | refine blk_drew ?_ | refine blk_alloc ?_ _)); exact BK213.out) hb)
              have n1_ := Aside0.mk (blk_below (g := gb224) (o := .cells #[.int .i64 t220, .int .i64 t221, .string t222] 32 (0, 0)) (by (with_reducible repeat (first | refine blk_drewN ?_ _ | refine blk_drew ?_ | refine blk_alloc ?_ _)); exact BK224.out) hb)
              have n2_ := Aside0.mk (blk_below (g := gb235) (o := .cells #[.int .i64 t231, .int .i64 t232, .string t233] 32 (0, 0)) (by (with_reducible repeat (first | refine blk_drewN ?_ _ | refine blk_drew ?_ | refine blk_alloc ?_ _)); exact BK235.out) hb)
              have n3_ := Aside0.mk (below_step (by repeat (first | (with_reducible first | exact HB.out | apply below_alloc | apply pw_below_drewN | apply below_drew1 | refine below_set ?_ GE213.out | refine below_set ?_ GE224.out | refine below_set ?_ GE235.out) | exact HB.out)) hb)
              clear BK213
              clear BK224
              clear BK235
              clear HB
              have BK213 := n0_
              have BK224 := n1_
              have BK235 := n2_
              have HB := n3_
              clear n0_ n1_ n2_ n3_
              (try clear hb)
              (try clear hb2)
              (try clear hk)
              (try clear hi)
              refine hK.out _ _ ⟨(blk_cell BK213.out 0).trans rfl, (blk_cell BK213.out 1).trans rfl, (blk_cell BK213.out 2).trans rfl, (blk_cell BK224.out 0).trans rfl, (blk_cell BK224.out 1).trans rfl, (blk_cell BK224.out 2).trans rfl⟩ (fun hHeld => ?_)
              clear hK K
              refine norm_ (a' := ?_) ?_ ?_
              rotate_left
              · show Act.put _ (some 46) _ = _
                simp only [Act.put, List.setIfInBounds_toArray, List.set_cons_zero, List.set_cons_succ, i64_w, i32_w]
                rfl
              refine one_ (i := 22) (N := some 47) #[true, true, true, true, true, true, true, true, true, true, true, true, true, true, true, true, true, true, true, true, true, true, true, false, false, false, false, false, false, false, false] rfl rfl (one_of HT_.out (by kernel_rfl)) (by decide) (fun K hK => ?_)
              refine goes_ Tryd.func55 (by kernel_rfl) rfl #[.string (⟨#[97]⟩ : ByteArray)] (by rfl) rfl rfl (by (try simp only [List.map_toArray, List.map_cons, List.map_nil]); first | done | rfl | (simp only [List.length_drop, List.length_take]; rfl)) ?_
              with_reducible refine (value_OfStr.calls (⟨#[97]⟩ : ByteArray) t245 t246 t247 _ A18.out).mono ?_
              rintro e w46 ⟨rfl, hb⟩
              refine ⟨_, rfl, ?_⟩
              have n0_ := Aside0.mk (blk_below (g := gb213) (o := .cells #[.int .i64 t209, .int .i64 t210, .string t211] 32 (0, 0)) (by (with_reducible repeat (first | refine blk_drewN ?_ _ | refine blk_drew ?_ | refine blk_alloc ?_ _)); exact BK213.out) hb)
              have n1_ := Aside0.mk (blk_below (g := gb224) (o := .cells #[.int .i64 t220, .int .i64 t221, .string t222] 32 (0, 0)) (by (with_reducible repeat (first | refine blk_drewN ?_ _ | refine blk_drew ?_ | refine blk_alloc ?_ _)); exact BK224.out) hb)
              have n2_ := Aside0.mk (blk_below (g := gb235) (o := .cells #[.int .i64 t231, .int .i64 t232, .string t233] 32 (0, 0)) (by (with_reducible repeat (first | refine blk_drewN ?_ _ | refine blk_drew ?_ | refine blk_alloc ?_ _)); exact BK235.out) hb)
              have n3_ := Aside0.mk (below_step (by repeat (first | (with_reducible first | exact HB.out | apply below_alloc | apply pw_below_drewN | apply below_drew1 | refine below_set ?_ GE213.out | refine below_set ?_ GE224.out | refine below_set ?_ GE235.out) | exact HB.out)) hb)
              clear BK213
              clear BK224
              clear BK235
              clear HB
              have BK213 := n0_
              have BK224 := n1_
              have BK235 := n2_
              have HB := n3_
              clear n0_ n1_ n2_ n3_
              (try clear hb)
              (try clear hb2)
              (try clear hk)
              (try clear hi)
              refine hK.out _ _ ⟨(blk_cell BK213.out 0).trans rfl, (blk_cell BK213.out 1).trans rfl, (blk_cell BK213.out 2).trans rfl, (blk_cell BK224.out 0).trans rfl, (blk_cell BK224.out 1).trans rfl, (blk_cell BK224.out 2).trans rfl⟩ (fun hHeld => ?_)
              clear hK K
              refine norm_ (a' := ?_) ?_ ?_
              rotate_left
              · show Act.put _ (some 47) _ = _
                simp only [Act.put, List.setIfInBounds_toArray, List.set_cons_zero, List.set_cons_succ, i64_w, i32_w]
                rfl
              refine one_ (i := 23) (N := some 48) #[true, true, true, true, true, true, true, true, true, true, true, true, true, true, true, true, true, true, true, true, true, true, true, true, false, false, false, false, false, false, false] rfl rfl (one_of HT_.out (by kernel_rfl)) (by decide) (fun K hK => ?_)
              refine goes_ Tryd.func51 (by kernel_rfl) rfl #[.int .i64 14, .agg #[.int .i64 t242, .int .i64 t243, .string t244], .agg #[.int .i64 t245, .int .i64 t246, .string t247]] (by rfl) rfl rfl (by (try simp only [List.map_toArray, List.map_cons, List.map_nil]); first | done | rfl | (simp only [List.length_drop, List.length_take]; rfl)) ?_
              with_reducible refine (oper_Blame.calls k 14 t242 t243 t244 t245 t246 t247 t248 _ (HTT.out.on (by repeat (first | (with_reducible first | exact HB.out | apply below_alloc | apply pw_below_drewN | apply below_drew1 | refine below_set ?_ GE213.out | refine below_set ?_ GE224.out | refine below_set ?_ GE235.out) | exact HB.out))) A19.out).mono ?_
              rintro e w47 ⟨rfl, hb⟩
              refine ⟨_, rfl, ?_⟩
              have n0_ := Aside0.mk (blk_below (g := gb213) (o := .cells #[.int .i64 t209, .int .i64 t210, .string t211] 32 (0, 0)) (by (with_reducible repeat (first | refine blk_drewN ?_ _ | refine blk_drew ?_ | refine blk_alloc ?_ _)); exact BK213.out) hb)
              have n1_ := Aside0.mk (blk_below (g := gb224) (o := .cells #[.int .i64 t220, .int .i64 t221, .string t222] 32 (0, 0)) (by (with_reducible repeat (first | refine blk_drewN ?_ _ | refine blk_drew ?_ | refine blk_alloc ?_ _)); exact BK224.out) hb)
              have n2_ := Aside0.mk (blk_below (g := gb235) (o := .cells #[.int .i64 t231, .int .i64 t232, .string t233] 32 (0, 0)) (by (with_reducible repeat (first | refine blk_drewN ?_ _ | refine blk_drew ?_ | refine blk_alloc ?_ _)); exact BK235.out) hb)
              have n3_ := Aside0.mk (below_step (by repeat (first | (with_reducible first | exact HB.out | apply below_alloc | apply pw_below_drewN | apply below_drew1 | refine below_set ?_ GE213.out | refine below_set ?_ GE224.out | refine below_set ?_ GE235.out) | exact HB.out)) hb)
              clear BK213
              clear BK224
              clear BK235
              clear HB
              have BK213 := n0_
              have BK224 := n1_
              have BK235 := n2_
              have HB := n3_
              clear n0_ n1_ n2_ n3_
              (try clear hb)
              (try clear hb2)
              (try clear hk)
              (try clear hi)
              refine hK.out _ _ ⟨(blk_cell BK213.out 0).trans rfl, (blk_cell BK213.out 1).trans rfl, (blk_cell BK213.out 2).trans rfl, (blk_cell BK224.out 0).trans rfl, (blk_cell BK224.out 1).trans rfl, (blk_cell BK224.out 2).trans rfl⟩ (fun hHeld => ?_)
              clear hK K
              refine norm_ (a' := ?_) ?_ ?_
              rotate_left
              · show Act.put _ (some 48) _ = _
                simp only [Act.put, List.setIfInBounds_toArray, List.set_cons_zero, List.set_cons_succ, i64_w, i32_w]
                rfl
              refine pure_ (i := 24) (N := some 49) (v := ?_) (a' := ?_) #[true, true, true, true, true, true, true, true, true, true, true, true, true, true, true, true, true, true, true, true, true, true, true, true, true, false, false, false, false, false, false] rfl rfl (any_of HT_.out (by kernel_rfl)) (fun _ _ _ h => h) (Or.inl ⟨by rfl, ?_⟩) ?_ ?_
              rotate_left
              · intro w'
                go_simp
                with_reducible rfl
              rotate_left
              · simp only [Act.put, List.setIfInBounds_toArray, List.set_cons_zero, List.set_cons_succ, i64_w, i32_w]
                rfl
              refine pure_ (i := 25) (N := some 50) (v := ?_) (a' := ?_) #[true, true, true, true, true, true, true, true, true, true, true, true, true, true, true, true, true, true, true, true, true, true, true, true, true, true, false, false, false, false, false] rfl rfl (any_of HT_.out (by kernel_rfl)) (fun _ _ _ h => h) (Or.inl ⟨by rfl, ?_⟩) ?_ ?_
              rotate_left
              · intro w'
                go_simp
                with_reducible rfl
              rotate_left
              · simp only [Act.put, List.setIfInBounds_toArray, List.set_cons_zero, List.set_cons_succ, i64_w, i32_w]
                rfl
              refine pure_ (i := 26) (N := some 51) (v := ?_) (a' := ?_) #[true, true, true, true, true, true, true, true, true, true, true, true, true, true, true, true, true, true, true, true, true, true, true, true, true, true, true, false, false, false, false] rfl rfl (any_of HT_.out (by kernel_rfl)) (fun _ _ _ h => h) (Or.inl ⟨by rfl, ?_⟩) ?_ ?_
              rotate_left
              · intro w'
                go_simp
                with_reducible rfl
              rotate_left
              · simp only [Act.put, List.setIfInBounds_toArray, List.set_cons_zero, List.set_cons_succ, i64_w, i32_w]
                rfl
              refine one_ (i := 27) (N := some 52) #[true, true, true, true, true, true, true, true, true, true, true, true, true, true, true, true, true, true, true, true, true, true, true, true, true, true, true, true, false, false, false] rfl rfl (one_of HT_.out (by kernel_rfl)) (by decide) (fun K hK => ?_)
              refine goes_ Tryd.func53 (by kernel_rfl) rfl #[.int .i64 0] (by rfl) rfl rfl (by (try simp only [List.map_toArray, List.map_cons, List.map_nil]); first | done | rfl | (simp only [List.length_drop, List.length_take]; rfl)) ?_
              with_reducible refine (value_OfInt.calls 0 t249 t250 t251 _ A21.out).mono ?_
              rintro e w48 ⟨rfl, hb⟩
              refine ⟨_, rfl, ?_⟩
              have n0_ := Aside0.mk (blk_below (g := gb213) (o := .cells #[.int .i64 t209, .int .i64 t210, .string t211] 32 (0, 0)) (by (with_reducible repeat (first | refine blk_drewN ?_ _ | refine blk_drew ?_ | refine blk_alloc ?_ _)); exact BK213.out) hb)
              have n1_ := Aside0.mk (blk_below (g := gb224) (o := .cells #[.int .i64 t220, .int .i64 t221, .string t222] 32 (0, 0)) (by (with_reducible repeat (first | refine blk_drewN ?_ _ | refine blk_drew ?_ | refine blk_alloc ?_ _)); exact BK224.out) hb)
              have n2_ := Aside0.mk (blk_below (g := gb235) (o := .cells #[.int .i64 t231, .int .i64 t232, .string t233] 32 (0, 0)) (by (with_reducible repeat (first | refine blk_drewN ?_ _ | refine blk_drew ?_ | refine blk_alloc ?_ _)); exact BK235.out) hb)
              have n3_ := Aside0.mk (below_step (by repeat (first | (with_reducible first | exact HB.out | apply below_alloc | apply pw_below_drewN | apply below_drew1 | refine below_set ?_ GE213.out | refine below_set ?_ GE224.out | refine below_set ?_ GE235.out) | exact HB.out)) hb)
              clear BK213
              clear BK224
              clear BK235
              clear HB
              have BK213 := n0_
              have BK224 := n1_
              have BK235 := n2_
              have HB := n3_
              clear n0_ n1_ n2_ n3_
              (try clear hb)
              (try clear hb2)
              (try clear hk)
              (try clear hi)
              refine hK.out _ _ ⟨(blk_cell BK213.out 0).trans rfl, (blk_cell BK213.out 1).trans rfl, (blk_cell BK213.out 2).trans rfl, (blk_cell BK224.out 0).trans rfl, (blk_cell BK224.out 1).trans rfl, (blk_cell BK224.out 2).trans rfl⟩ (fun hHeld => ?_)
              clear hK K
              refine norm_ (a' := ?_) ?_ ?_
              rotate_left
              · show Act.put _ (some 52) _ = _
                simp only [Act.put, List.setIfInBounds_toArray, List.set_cons_zero, List.set_cons_succ, i64_w, i32_w]
                rfl
              refine one_ (i := 28) (N := some 53) #[true, true, true, true, true, true, true, true, true, true, true, true, true, true, true, true, true, true, true, true, true, true, true, true, true, true, true, true, true, false, false] rfl rfl (one_of HT_.out (by kernel_rfl)) (by decide) (fun K hK => ?_)
              refine goes_ Tryd.func47 (by kernel_rfl) rfl #[.agg #[.int .i64 t249, .int .i64 t250, .string t251]] (by rfl) rfl rfl (by (try simp only [List.map_toArray, List.map_cons, List.map_nil]); first | done | rfl | (simp only [List.length_drop, List.length_take]; rfl)) ?_
              with_reducible refine (value_Truth.calls t249 t250 t251 t252 _ A22.out).mono ?_
              rintro e w49 ⟨rfl, hb⟩
              refine ⟨_, rfl, ?_⟩
              have n0_ := Aside0.mk (blk_below (g := gb213) (o := .cells #[.int .i64 t209, .int .i64 t210, .string t211] 32 (0, 0)) (by (with_reducible repeat (first | refine blk_drewN ?_ _ | refine blk_drew ?_ | refine blk_alloc ?_ _)); exact BK213.out) hb)
              have n1_ := Aside0.mk (blk_below (g := gb224) (o := .cells #[.int .i64 t220, .int .i64 t221, .string t222] 32 (0, 0)) (by (with_reducible repeat (first | refine blk_drewN ?_ _ | refine blk_drew ?_ | refine blk_alloc ?_ _)); exact BK224.out) hb)
              have n2_ := Aside0.mk (blk_below (g := gb235) (o := .cells #[.int .i64 t231, .int .i64 t232, .string t233] 32 (0, 0)) (by (with_reducible repeat (first | refine blk_drewN ?_ _ | refine blk_drew ?_ | refine blk_alloc ?_ _)); exact BK235.out) hb)
              have n3_ := Aside0.mk (below_step (by repeat (first | (with_reducible first | exact HB.out | apply below_alloc | apply pw_below_drewN | apply below_drew1 | refine below_set ?_ GE213.out | refine below_set ?_ GE224.out | refine below_set ?_ GE235.out) | exact HB.out)) hb)
              clear BK213
              clear BK224
              clear BK235
              clear HB
              have BK213 := n0_
              have BK224 := n1_
              have BK235 := n2_
              have HB := n3_
              clear n0_ n1_ n2_ n3_
              (try clear hb)
              (try clear hb2)
              (try clear hk)
              (try clear hi)
              refine hK.out _ _ ⟨(blk_cell BK213.out 0).trans rfl, (blk_cell BK213.out 1).trans rfl, (blk_cell BK213.out 2).trans rfl, (blk_cell BK224.out 0).trans rfl, (blk_cell BK224.out 1).trans rfl, (blk_cell BK224.out 2).trans rfl⟩ (fun hHeld => ?_)
              clear hK K
              refine norm_ (a' := ?_) ?_ ?_
              rotate_left
              · show Act.put _ (some 53) _ = _
                simp only [Act.put, List.setIfInBounds_toArray, List.set_cons_zero, List.set_cons_succ, i64_w, i32_w]
                rfl
              refine pure_ (i := 29) (N := some 54) (v := ?_) (a' := ?_) #[true, true, true, true, true, true, true, true, true, true, true, true, true, true, true, true, true, true, true, true, true, true, true, true, true, true, true, true, true, true, false] rfl rfl (any_of HT_.out (by kernel_rfl)) (fun _ _ _ h => h) (Or.inl ⟨by rfl, ?_⟩) ?_ ?_
              rotate_left
              · intro w'
                go_simp
                with_reducible rfl
              rotate_left
              · simp only [Act.put, List.setIfInBounds_toArray, List.set_cons_zero, List.set_cons_succ, i64_w, i32_w]
                rfl
              refine pure_ (i := 30) (N := some 0) (v := ?_) (a' := ?_) #[true, true, true, true, true, true, true, true, true, true, true, true, true, true, true, true, true, true, true, true, true, true, true, true, true, true, true, true, true, true, true] rfl rfl (any_of HT_.out (by kernel_rfl)) (fun _ _ _ h => h) (Or.inl ⟨by rfl, ?_⟩) ?_ ?_
              rotate_left
              · intro w'
                go_simp
                with_reducible rfl
              rotate_left
              · simp only [Act.put, List.setIfInBounds_toArray, List.set_cons_zero, List.set_cons_succ, i64_w, i32_w]
                rfl
              refine done_ (done_of HT_.out (by kernel_rfl)) ?_
              try go_wp2
              go_ret
              exact ⟨by first | rfl | (simp [errW_none, errW_some] <;> rfl) | (simp [*, errW_none, errW_some] <;> rfl), by repeat (first | (with_reducible first | exact HB.out | apply below_alloc | apply pw_below_drewN | apply below_drew1 | refine below_set ?_ GE213.out | refine below_set ?_ GE224.out | refine below_set ?_ GE235.out) | exact HB.out)⟩
            · rw [if_neg c20] at H
              have c20b0 : (t248.toList == ([97, 116, 116, 101, 109, 112, 116, 32, 116, 111, 32, 99, 111, 109, 112, 97, 114, 101, 32, 110, 117, 109, 98, 101, 114, 32, 119, 105, 116, 104, 32, 115, 116, 114, 105, 110, 103] : List UInt8)) = false := beq_eq_false_iff_ne.mpr c20
              have c20b1 : (t248.toList != ([97, 116, 116, 101, 109, 112, 116, 32, 116, 111, 32, 99, 111, 109, 112, 97, 114, 101, 32, 110, 117, 109, 98, 101, 114, 32, 119, 105, 116, 104, 32, 115, 116, 114, 105, 110, 103] : List UInt8)) = true := bne_iff_ne.mpr c20
              exact absurd (Option.some.inj H) (by rw [HR.out]; decide)
          · rw [if_neg c16] at H
            have c16b0 : (t234 == 18) = false := beq_eq_false_iff_ne.mpr c16
            have c16b1 : (t234 != 18) = true := bne_iff_ne.mpr c16
            exact absurd (Option.some.inj H) (by rw [HR.out]; decide)
        · rw [if_neg c15] at H
          have c15b0 : (t223 == 0) = false := beq_eq_false_iff_ne.mpr c15
          have c15b1 : (t223 != 0) = true := bne_iff_ne.mpr c15
          exact absurd (Option.some.inj H) (by rw [HR.out]; decide)
      · rw [if_neg c14] at H
        have c14b0 : (t220 == t239 && (t221 == t240 && (t222.toList == t241.toList))) = false := by simpa using c14
        (try (have c14b1 : decide (t220 = t239 && (t221 == t240 && (t222.toList == t241.toList))) = false := by simpa using c14))
        (try (have c14b2 : (t220 == t239 && (t221 == t240 && (t222.toList == t241.toList))) = false := by simpa using c14))
        (try (have c14b3 : ¬ (t220 = t239 && (t221 == t240 && (t222.toList == t241.toList))) := by simpa using c14))
        clear c14
        exact absurd (Option.some.inj H) (by rw [HR.out]; decide)
    · rw [if_neg c12] at H
      have c12b0 : (t212 == 0) = false := beq_eq_false_iff_ne.mpr c12
      have c12b1 : (t212 != 0) = true := bne_iff_ne.mpr c12
      exact absurd (Option.some.inj H) (by rw [HR.out]; decide)
  · rw [if_neg c11] at H
    have c11b0 : (t209 == t236 && (t210 == t237 && (t211.toList == t238.toList))) = false := by simpa using c11
    (try (have c11b1 : decide (t209 = t236 && (t210 == t237 && (t211.toList == t238.toList))) = false := by simpa using c11))
    (try (have c11b2 : (t209 == t236 && (t210 == t237 && (t211.toList == t238.toList))) = false := by simpa using c11))
    (try (have c11b3 : ¬ (t209 = t236 && (t210 == t237 && (t211.toList == t238.toList))) := by simpa using c11))
    clear c11
    exact absurd (Option.some.inj H) (by rw [HR.out]; decide)

end Go.Proofs.YtpgpmldaggpciaaDoor.PDo
