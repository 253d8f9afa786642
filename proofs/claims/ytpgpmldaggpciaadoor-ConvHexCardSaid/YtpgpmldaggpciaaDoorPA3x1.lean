-- printed by a call of the kit's print.py over several functions of this seat (wip/pr.sh)
import Derived.Test.YtpgpmldaggpciaaDoorPA3x0
namespace Go.Proofs.YtpgpmldaggpciaaDoor.PA3
open Go.RowKit Go.Proofs.YtpgpmldaggpciaaDoorW.PrintWords Go.Proofs.YtpgpmldaggpciaaDoorW.PrintLast Go.Proofs.YtpgpmldaggpciaaDoorW.PrintMore
attribute [local go_sem] max2_int min2_int max_two min_two max_three min_three max_four min_four   -- for this text's walks alone
set_option linter.unusedVariables false
set_option linter.unusedSimpArgs false

/-! ### conv_Print: function 13 -/
def conv_Print.f (a0 : Int) : Option (ByteArray) := Conv03.printF a0
theorem conv_Print.calls (a0 : Int) (r : ByteArray) (w : World) (hT : TabW.Tab w) (h : conv_Print.f a0 = some r) :
    Calls Tryd.prog 13 #[.int .i64 a0] w fun e w' => e = .returned (.string r) ∧ Below w.heap.size w w' := Conv03.print_calls a0 r w hT h

/-! ### conv_ToInt: function 14 -/
def conv_ToInt.f (a0 : ByteArray) : Option (Int × Bool) := Conv03.toIntF a0
theorem conv_ToInt.calls (a0 : ByteArray) (r1 : Int) (r2 : Bool) (w : World) (hT : TabW.Tab w) (h : conv_ToInt.f a0 = some (r1, r2)) :
    Calls Tryd.prog 14 #[.string a0] w fun e w' => e = .returned (.tuple #[.int .i64 r1, .bool r2]) ∧ Below w.heap.size w w' := Conv03.toInt_calls a0 r1 r2 w hT h

/-! ### conv_Base: function 15 -/
def conv_Base.f (a0 : ByteArray) (a1 : Int) : Option (Int × Bool) := Conv03.baseF a0 a1
theorem conv_Base.calls (a0 : ByteArray) (a1 : Int) (r1 : Int) (r2 : Bool) (w : World) (hT : TabW.Tab w) (h : conv_Base.f a0 a1 = some (r1, r2)) :
    Calls Tryd.prog 15 #[.string a0, .int .i64 a1] w fun e w' => e = .returned (.tuple #[.int .i64 r1, .bool r2]) ∧ Below w.heap.size w w' := Conv03.base_calls a0 a1 r1 r2 w hT h

/-! ### conv_Numeral: function 16 -/
def conv_Numeral.f (a0 : ByteArray) : Option (Int × Bool) := Conv03.numeral2F a0
theorem conv_Numeral.calls (a0 : ByteArray) (r1 : Int) (r2 : Bool) (w : World) (hT : TabW.Tab w) (h : conv_Numeral.f a0 = some (r1, r2)) :
    Calls Tryd.prog 16 #[.string a0] w fun e w' => e = .returned (.tuple #[.int .i64 r1, .bool r2]) ∧ Below w.heap.size w w' := Conv03.numeral2_calls a0 r1 r2 w hT h

/-! ### conv_Number: function 52 -/
def conv_Number.f (a0_0 : Int) (a0_1 : Int) (a0_2 : ByteArray) : Option (Int × Bool) := GW.numberF a0_0 a0_1 a0_2
theorem conv_Number.calls (a0_0 : Int) (a0_1 : Int) (a0_2 : ByteArray) (r1 : Int) (r2 : Bool) (w : World) (hT : TabW.Tab w) (h : conv_Number.f a0_0 a0_1 a0_2 = some (r1, r2)) :
    Calls Tryd.prog 52 #[.agg #[.int .i64 a0_0, .int .i64 a0_1, .string a0_2]] w fun e w' => e = .returned (.tuple #[.int .i64 r1, .bool r2]) ∧ Below w.heap.size w w' := GW.number_calls a0_0 a0_1 a0_2 r1 r2 w hT h

/-! ### selkielaw03_alive: function 12 -/
def selkielaw03_alive.f  : Option (Bool) := (conv_ToInt.f (⟨#[32, 45, 48, 120, 49, 48, 32]⟩ : ByteArray)).bind fun bt101 => ((conv_Numeral.f (⟨#[57, 50, 50, 51, 51, 55, 50, 48, 51, 54, 56, 53, 52, 55, 55, 53, 56, 48, 56]⟩ : ByteArray)).bind fun bt103 => ((conv_ToInt.f (⟨#[45, 57, 50, 50, 51, 51, 55, 50, 48, 51, 54, 56, 53, 52, 55, 55, 53, 56, 48, 56]⟩ : ByteArray)).bind fun bt105 => ((conv_Base.f (⟨#[122, 122]⟩ : ByteArray) 36).bind fun bt107 => ((conv_Number.f 3 0 (⟨#[49, 97]⟩ : ByteArray)).bind fun bt109 => (if bt101.1 = (-16) then (if bt101.2 = true then (if bt103.2 = true then (some false) else (if bt105.1 = (-9223372036854775808) then (if bt105.2 = true then (if bt107.1 = 1295 then (if bt107.2 = true then (if bt109.2 = true then (some false) else ((conv_Print.f (-20)).bind fun t111 => (some (t111.toList == ([45, 50, 48] : List UInt8))))) else (some false)) else (some false)) else (some false)) else (some false))) else (some false)) else (some false))))))
set_option maxHeartbeats 8000000 in
set_option maxRecDepth 100000 in
theorem selkielaw03_alive.calls  (r : Bool) (w : World) (hT : Go.Proofs.YtpgpmldaggpciaaDoor.TabW.Tab w) (hr : r = true) (h : selkielaw03_alive.f  = some r) :
    Calls Tryd.prog 12 #[] w fun e w' => e = .returned (.bool r) ∧ Below w.heap.size w w' := by
  have hu32 := Tryd.underlying32
  have HB := Aside0.mk (Below.refl w.heap.size w)
  have HR := Aside0.mk hr
  clear hr
  have HTT := Aside0.mk hT
  clear hT
  have H : ((conv_ToInt.f (⟨#[32, 45, 48, 120, 49, 48, 32]⟩ : ByteArray)).bind fun bt101 => ((conv_Numeral.f (⟨#[57, 50, 50, 51, 51, 55, 50, 48, 51, 54, 56, 53, 52, 55, 55, 53, 56, 48, 56]⟩ : ByteArray)).bind fun bt103 => ((conv_ToInt.f (⟨#[45, 57, 50, 50, 51, 51, 55, 50, 48, 51, 54, 56, 53, 52, 55, 55, 53, 56, 48, 56]⟩ : ByteArray)).bind fun bt105 => ((conv_Base.f (⟨#[122, 122]⟩ : ByteArray) 36).bind fun bt107 => ((conv_Number.f 3 0 (⟨#[49, 97]⟩ : ByteArray)).bind fun bt109 => (if bt101.1 = (-16) then (if bt101.2 = true then (if bt103.2 = true then (some false) else (if bt105.1 = (-9223372036854775808) then (if bt105.2 = true then (if bt107.1 = 1295 then (if bt107.2 = true then (if bt109.2 = true then (some false) else ((conv_Print.f (-20)).bind fun t111 => (some (t111.toList == ([45, 50, 48] : List UInt8))))) else (some false)) else (some false)) else (some false)) else (some false))) else (some false)) else (some false))))))) = some r := h
  clear h
  replace H := Option.bind_eq_some_iff.mp H
  obtain ⟨⟨t101, t102⟩, A10, H⟩ := H
  replace H : ((conv_Numeral.f (⟨#[57, 50, 50, 51, 51, 55, 50, 48, 51, 54, 56, 53, 52, 55, 55, 53, 56, 48, 56]⟩ : ByteArray)).bind fun bt103 => ((conv_ToInt.f (⟨#[45, 57, 50, 50, 51, 51, 55, 50, 48, 51, 54, 56, 53, 52, 55, 55, 53, 56, 48, 56]⟩ : ByteArray)).bind fun bt105 => ((conv_Base.f (⟨#[122, 122]⟩ : ByteArray) 36).bind fun bt107 => ((conv_Number.f 3 0 (⟨#[49, 97]⟩ : ByteArray)).bind fun bt109 => (if t101 = (-16) then (if t102 = true then (if bt103.2 = true then (some false) else (if bt105.1 = (-9223372036854775808) then (if bt105.2 = true then (if bt107.1 = 1295 then (if bt107.2 = true then (if bt109.2 = true then (some false) else ((conv_Print.f (-20)).bind fun t111 => (some (t111.toList == ([45, 50, 48] : List UInt8))))) else (some false)) else (some false)) else (some false)) else (some false))) else (some false)) else (some false)))))) = some r := H
  have A1 := Aside0.mk A10
  clear A10
  replace H := Option.bind_eq_some_iff.mp H
  obtain ⟨⟨t103, t104⟩, A20, H⟩ := H
  replace H : ((conv_ToInt.f (⟨#[45, 57, 50, 50, 51, 51, 55, 50, 48, 51, 54, 56, 53, 52, 55, 55, 53, 56, 48, 56]⟩ : ByteArray)).bind fun bt105 => ((conv_Base.f (⟨#[122, 122]⟩ : ByteArray) 36).bind fun bt107 => ((conv_Number.f 3 0 (⟨#[49, 97]⟩ : ByteArray)).bind fun bt109 => (if t101 = (-16) then (if t102 = true then (if t104 = true then (some false) else (if bt105.1 = (-9223372036854775808) then (if bt105.2 = true then (if bt107.1 = 1295 then (if bt107.2 = true then (if bt109.2 = true then (some false) else ((conv_Print.f (-20)).bind fun t111 => (some (t111.toList == ([45, 50, 48] : List UInt8))))) else (some false)) else (some false)) else (some false)) else (some false))) else (some false)) else (some false))))) = some r := H
  have A2 := Aside0.mk A20
  clear A20
  replace H := Option.bind_eq_some_iff.mp H
  obtain ⟨⟨t105, t106⟩, A30, H⟩ := H
  replace H : ((conv_Base.f (⟨#[122, 122]⟩ : ByteArray) 36).bind fun bt107 => ((conv_Number.f 3 0 (⟨#[49, 97]⟩ : ByteArray)).bind fun bt109 => (if t101 = (-16) then (if t102 = true then (if t104 = true then (some false) else (if t105 = (-9223372036854775808) then (if t106 = true then (if bt107.1 = 1295 then (if bt107.2 = true then (if bt109.2 = true then (some false) else ((conv_Print.f (-20)).bind fun t111 => (some (t111.toList == ([45, 50, 48] : List UInt8))))) else (some false)) else (some false)) else (some false)) else (some false))) else (some false)) else (some false)))) = some r := H
  have A3 := Aside0.mk A30
  clear A30
  replace H := Option.bind_eq_some_iff.mp H
  obtain ⟨⟨t107, t108⟩, A40, H⟩ := H
  replace H : ((conv_Number.f 3 0 (⟨#[49, 97]⟩ : ByteArray)).bind fun bt109 => (if t101 = (-16) then (if t102 = true then (if t104 = true then (some false) else (if t105 = (-9223372036854775808) then (if t106 = true then (if t107 = 1295 then (if t108 = true then (if bt109.2 = true then (some false) else ((conv_Print.f (-20)).bind fun t111 => (some (t111.toList == ([45, 50, 48] : List UInt8))))) else (some false)) else (some false)) else (some false)) else (some false))) else (some false)) else (some false))) = some r := H
  have A4 := Aside0.mk A40
  clear A40
  replace H := Option.bind_eq_some_iff.mp H
  obtain ⟨⟨t109, t110⟩, A50, H⟩ := H
  replace H : (if t101 = (-16) then (if t102 = true then (if t104 = true then (some false) else (if t105 = (-9223372036854775808) then (if t106 = true then (if t107 = 1295 then (if t108 = true then (if t110 = true then (some false) else ((conv_Print.f (-20)).bind fun t111 => (some (t111.toList == ([45, 50, 48] : List UInt8))))) else (some false)) else (some false)) else (some false)) else (some false))) else (some false)) else (some false)) = some r := H
  have A5 := Aside0.mk A50
  clear A50
  by_cases c6 : t101 = (-16)
  · rw [if_pos c6] at H
    have c6b0 : (t101 == (-16)) = true := beq_iff_eq.mpr c6
    have c6b1 : (t101 != (-16)) = false := bne_eq_false_iff_eq.mpr c6
    clear c6
    by_cases c7 : t102 = true
    · subst c7
      have H1 : (if t104 = true then (some false) else (if t105 = (-9223372036854775808) then (if t106 = true then (if t107 = 1295 then (if t108 = true then (if t110 = true then (some false) else ((conv_Print.f (-20)).bind fun t111 => (some (t111.toList == ([45, 50, 48] : List UInt8))))) else (some false)) else (some false)) else (some false)) else (some false))) = some r := by rw [if_pos rfl] at H; exact H
      clear H
      have H := H1
      clear H1
      by_cases c8 : t104 = true
      · subst c8
        have H1 : (some false) = some r := by rw [if_pos rfl] at H; exact H
        clear H
        have H := H1
        clear H1
        exact absurd (Option.some.inj H) (by rw [HR.out]; decide)
      · replace c8 := Bool.eq_false_iff.mpr c8
        subst c8
        have H1 : (if t105 = (-9223372036854775808) then (if t106 = true then (if t107 = 1295 then (if t108 = true then (if t110 = true then (some false) else ((conv_Print.f (-20)).bind fun t111 => (some (t111.toList == ([45, 50, 48] : List UInt8))))) else (some false)) else (some false)) else (some false)) else (some false)) = some r := by rw [if_neg (show ¬ (false = true) by decide)] at H; exact H
        clear H
        have H := H1
        clear H1
        by_cases c9 : t105 = (-9223372036854775808)
        · rw [if_pos c9] at H
          have c9b0 : (t105 == (-9223372036854775808)) = true := beq_iff_eq.mpr c9
          have c9b1 : (t105 != (-9223372036854775808)) = false := bne_eq_false_iff_eq.mpr c9
          clear c9
          by_cases c10 : t106 = true
          · subst c10
            have H1 : (if t107 = 1295 then (if t108 = true then (if t110 = true then (some false) else ((conv_Print.f (-20)).bind fun t111 => (some (t111.toList == ([45, 50, 48] : List UInt8))))) else (some false)) else (some false)) = some r := by rw [if_pos rfl] at H; exact H
            clear H
            have H := H1
            clear H1
            by_cases c11 : t107 = 1295
            · rw [if_pos c11] at H
              have c11b0 : (t107 == 1295) = true := beq_iff_eq.mpr c11
              have c11b1 : (t107 != 1295) = false := bne_eq_false_iff_eq.mpr c11
              clear c11
              by_cases c12 : t108 = true
              · subst c12
                have H1 : (if t110 = true then (some false) else ((conv_Print.f (-20)).bind fun t111 => (some (t111.toList == ([45, 50, 48] : List UInt8))))) = some r := by rw [if_pos rfl] at H; exact H
                clear H
                have H := H1
                clear H1
                by_cases c13 : t110 = true
                · subst c13
                  have H1 : (some false) = some r := by rw [if_pos rfl] at H; exact H
                  clear H
                  have H := H1
                  clear H1
                  exact absurd (Option.some.inj H) (by rw [HR.out]; decide)
                · replace c13 := Bool.eq_false_iff.mpr c13
                  subst c13
                  have H1 : ((conv_Print.f (-20)).bind fun t111 => (some (t111.toList == ([45, 50, 48] : List UInt8)))) = some r := by rw [if_neg (show ¬ (false = true) by decide)] at H; exact H
                  clear H
                  have H := H1
                  clear H1
                  replace H := Option.bind_eq_some_iff.mp H
                  obtain ⟨t111, A140, H⟩ := H
                  replace H : (some (t111.toList == ([45, 50, 48] : List UInt8))) = some r := H
                  have A14 := Aside0.mk A140
                  clear A140
                  obtain rfl := Option.some.inj H
                  go_enter Tryd.func12, Tryd.ntmps12
                  go_wp2_with (first | ((with_reducible refine gate_callee (f := 14) rfl ?_); refine goesL_ (some 12) rfl rfl Tryd.func14 (by kernel_rfl) rfl #[.string (⟨#[32, 45, 48, 120, 49, 48, 32]⟩ : ByteArray)] rfl (by (try simp only [List.map_toArray, List.map_cons, List.map_nil]); first | done | rfl | (simp only [List.length_drop, List.length_take]; rfl)) ?_; (with_reducible refine (conv_ToInt.calls (⟨#[32, 45, 48, 120, 49, 48, 32]⟩ : ByteArray) t101 true _ (HTT.out.on (by repeat (first | (with_reducible first | exact HB.out | apply below_alloc | apply pw_below_drewN | apply below_drew1) | exact HB.out))) A1.out).mono ?_); rintro e w15 ⟨rfl, hb⟩; refine ⟨_, rfl, ?_⟩; have n0_ := Aside0.mk (below_step (by repeat (first | (with_reducible first | exact HB.out | apply below_alloc | apply pw_below_drewN | apply below_drew1) | exact HB.out)) hb); clear HB; have HB := n0_; clear n0_; (try clear hb); (try clear hb2); (try clear hk); (try clear hi)) | ((with_reducible refine gate_callee (f := 16) rfl ?_); refine goesL_ (some 16) rfl rfl Tryd.func16 (by kernel_rfl) rfl #[.string (⟨#[57, 50, 50, 51, 51, 55, 50, 48, 51, 54, 56, 53, 52, 55, 55, 53, 56, 48, 56]⟩ : ByteArray)] rfl (by (try simp only [List.map_toArray, List.map_cons, List.map_nil]); first | done | rfl | (simp only [List.length_drop, List.length_take]; rfl)) ?_; (with_reducible refine (conv_Numeral.calls (⟨#[57, 50, 50, 51, 51, 55, 50, 48, 51, 54, 56, 53, 52, 55, 55, 53, 56, 48, 56]⟩ : ByteArray) t103 false _ (HTT.out.on (by repeat (first | (with_reducible first | exact HB.out | apply below_alloc | apply pw_below_drewN | apply below_drew1) | exact HB.out))) A2.out).mono ?_); rintro e w16 ⟨rfl, hb⟩; refine ⟨_, rfl, ?_⟩; have n0_ := Aside0.mk (below_step (by repeat (first | (with_reducible first | exact HB.out | apply below_alloc | apply pw_below_drewN | apply below_drew1) | exact HB.out)) hb); clear HB; have HB := n0_; clear n0_; (try clear hb); (try clear hb2); (try clear hk); (try clear hi)) | ((with_reducible refine gate_callee (f := 14) rfl ?_); refine goesL_ (some 20) rfl rfl Tryd.func14 (by kernel_rfl) rfl #[.string (⟨#[45, 57, 50, 50, 51, 51, 55, 50, 48, 51, 54, 56, 53, 52, 55, 55, 53, 56, 48, 56]⟩ : ByteArray)] rfl (by (try simp only [List.map_toArray, List.map_cons, List.map_nil]); first | done | rfl | (simp only [List.length_drop, List.length_take]; rfl)) ?_; (with_reducible refine (conv_ToInt.calls (⟨#[45, 57, 50, 50, 51, 51, 55, 50, 48, 51, 54, 56, 53, 52, 55, 55, 53, 56, 48, 56]⟩ : ByteArray) t105 true _ (HTT.out.on (by repeat (first | (with_reducible first | exact HB.out | apply below_alloc | apply pw_below_drewN | apply below_drew1) | exact HB.out))) A3.out).mono ?_); rintro e w17 ⟨rfl, hb⟩; refine ⟨_, rfl, ?_⟩; have n0_ := Aside0.mk (below_step (by repeat (first | (with_reducible first | exact HB.out | apply below_alloc | apply pw_below_drewN | apply below_drew1) | exact HB.out)) hb); clear HB; have HB := n0_; clear n0_; (try clear hb); (try clear hb2); (try clear hk); (try clear hi)) | ((with_reducible refine gate_callee (f := 15) rfl ?_); refine goesL_ (some 24) rfl rfl Tryd.func15 (by kernel_rfl) rfl #[.string (⟨#[122, 122]⟩ : ByteArray), .int .i64 36] rfl (by (try simp only [List.map_toArray, List.map_cons, List.map_nil]); first | done | rfl | (simp only [List.length_drop, List.length_take]; rfl)) ?_; (with_reducible refine (conv_Base.calls (⟨#[122, 122]⟩ : ByteArray) 36 t107 true _ (HTT.out.on (by repeat (first | (with_reducible first | exact HB.out | apply below_alloc | apply pw_below_drewN | apply below_drew1) | exact HB.out))) A4.out).mono ?_); rintro e w18 ⟨rfl, hb⟩; refine ⟨_, rfl, ?_⟩; have n0_ := Aside0.mk (below_step (by repeat (first | (with_reducible first | exact HB.out | apply below_alloc | apply pw_below_drewN | apply below_drew1) | exact HB.out)) hb); clear HB; have HB := n0_; clear n0_; (try clear hb); (try clear hb2); (try clear hk); (try clear hi)) | ((with_reducible refine gate_callee (f := 52) rfl ?_); refine goesL_ (some 29) rfl rfl Tryd.func52 (by kernel_rfl) rfl #[.agg #[.int .i64 3, .int .i64 0, .string (⟨#[49, 97]⟩ : ByteArray)]] rfl (by (try simp only [List.map_toArray, List.map_cons, List.map_nil]); first | done | rfl | (simp only [List.length_drop, List.length_take]; rfl)) ?_; (with_reducible refine (conv_Number.calls 3 0 (⟨#[49, 97]⟩ : ByteArray) t109 false _ (HTT.out.on (by repeat (first | (with_reducible first | exact HB.out | apply below_alloc | apply pw_below_drewN | apply below_drew1) | exact HB.out))) A5.out).mono ?_); rintro e w19 ⟨rfl, hb⟩; refine ⟨_, rfl, ?_⟩; have n0_ := Aside0.mk (below_step (by repeat (first | (with_reducible first | exact HB.out | apply below_alloc | apply pw_below_drewN | apply below_drew1) | exact HB.out)) hb); clear HB; have HB := n0_; clear n0_; (try clear hb); (try clear hb2); (try clear hk); (try clear hi)) | (go_at_call 13; (with_reducible refine (conv_Print.calls (-20) t111 _ (HTT.out.on (by repeat (first | (with_reducible first | exact HB.out | apply below_alloc | apply pw_below_drewN | apply below_drew1) | exact HB.out))) A14.out).mono ?_); rintro e w20 ⟨rfl, hb⟩; have n0_ := Aside0.mk (below_step (by repeat (first | (with_reducible first | exact HB.out | apply below_alloc | apply pw_below_drewN | apply below_drew1) | exact HB.out)) hb); clear HB; have HB := n0_; clear n0_; (try clear hb); (try clear hb2); (try clear hk); (try clear hi)))
                  go_ret
                  exact ⟨by first | rfl | (simp [errW_none, errW_some] <;> rfl) | (simp [*, errW_none, errW_some] <;> rfl), by repeat (first | (with_reducible first | exact HB.out | apply below_alloc | apply pw_below_drewN | apply below_drew1) | exact HB.out)⟩
              · replace c12 := Bool.eq_false_iff.mpr c12
                subst c12
                have H1 : (some false) = some r := by rw [if_neg (show ¬ (false = true) by decide)] at H; exact H
                clear H
                have H := H1
                clear H1
                exact absurd (Option.some.inj H) (by rw [HR.out]; decide)
            · rw [if_neg c11] at H
              have c11b0 : (t107 == 1295) = false := beq_eq_false_iff_ne.mpr c11
              have c11b1 : (t107 != 1295) = true := bne_iff_ne.mpr c11
              exact absurd (Option.some.inj H) (by rw [HR.out]; decide)
          · replace c10 := Bool.eq_false_iff.mpr c10
            subst c10
            have H1 : (some false) = some r := by rw [if_neg (show ¬ (false = true) by decide)] at H; exact H
            clear H
            have H := H1
            clear H1
            exact absurd (Option.some.inj H) (by rw [HR.out]; decide)
        · rw [if_neg c9] at H
          have c9b0 : (t105 == (-9223372036854775808)) = false := beq_eq_false_iff_ne.mpr c9
          have c9b1 : (t105 != (-9223372036854775808)) = true := bne_iff_ne.mpr c9
          exact absurd (Option.some.inj H) (by rw [HR.out]; decide)
    · replace c7 := Bool.eq_false_iff.mpr c7
      subst c7
      have H1 : (some false) = some r := by rw [if_neg (show ¬ (false = true) by decide)] at H; exact H
      clear H
      have H := H1
      clear H1
      exact absurd (Option.some.inj H) (by rw [HR.out]; decide)
  · rw [if_neg c6] at H
    have c6b0 : (t101 == (-16)) = false := beq_eq_false_iff_ne.mpr c6
    have c6b1 : (t101 != (-16)) = true := bne_iff_ne.mpr c6
    exact absurd (Option.some.inj H) (by rw [HR.out]; decide)

end Go.Proofs.YtpgpmldaggpciaaDoor.PA3
