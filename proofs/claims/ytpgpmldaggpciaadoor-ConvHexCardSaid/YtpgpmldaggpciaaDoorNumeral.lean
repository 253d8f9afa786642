/- conv's numeral: the call, by hand; the library's tables and variables that it wants. -/
import Derived.Test.YtpgpmldaggpciaaDoorPAx
import Derived.Test.YtpgpmldaggpciaaDoorConvP
import Derived.Test.YtpgpmldaggpciaaDoorShelf
import Derived.Test.YtpgpmldaggpciaaDoorTab0
import Derived.Shelf.Strings.SlTrimAscii
import Derived.WalkKit
import Derived.Lib.Hide
import Derived.Lib.LaidTab
import Derived.Lib.AppendIntMem
import Derived.Laws.Strings
import Derived.WideShapes
import Derived.Outline
set_option linter.unusedVariables false
set_option linter.unusedSimpArgs false
namespace Go.Proofs.YtpgpmldaggpciaaDoor.TabW
open Go.RowKit Go.Proofs.YtpgpmldaggpciaaDoor.PA Go.Proofs.YtpgpmldaggpciaaDoorW.PrintWords Go.Proofs.YtpgpmldaggpciaaDoorW.PrintLast Go.Proofs.YtpgpmldaggpciaaDoorW.PrintMore Go.Proofs.YtpgpmldaggpciaaDoor.Maths Go.Proofs.YtpgpmldaggpciaaDoor.ConvP
/-- the library's table and its error lie -/
def ErrVar (w : World) : Prop := ∃ tp p, w.var? Tryd.prog "strconv.ErrRange" = some #[.iface tp p]
def Tab (w : World) : Prop := Lib.TabBelow Tryd.prog w.heap.size w "internal/strconv.uint64pow10" .u64 Lib.pow10Tab ∧ ErrVar w
theorem Tab.here {w : World} (h : Tab w) : Lib.TabIs Tryd.prog w "internal/strconv.uint64pow10" .u64 Lib.pow10Tab := Lib.TabBelow.here h.1
theorem var_on {w w' : World} {n : String} {c : Array Value} (h : w.var? Tryd.prog n = some c) (hb : Below w.heap.size w w') : w'.var? Tryd.prog n = some c := by
  unfold World.var? at *
  cases hg : Tryd.prog.globalNamed n with
  | none => simp [hg] at h
  | some g =>
    simp only [hg, Option.bind_some] at h ⊢
    have hlt : g < w.heap.size := by
      rcases Nat.lt_or_ge g w.heap.size with hlt | hge
      · exact hlt
      · rw [Array.getElem?_eq_none hge] at h; cases h
    rw [hb.block g hlt]; exact h
theorem Tab.on {w w' : World} (h : Tab w) (hb : Below w.heap.size w w') : Tab w' :=
  ⟨Lib.tabBelow_of_tabIs (Lib.TabBelow.on h.1 hb).here, by obtain ⟨tp, p, e⟩ := h.2; exact ⟨tp, p, var_on e hb⟩⟩
theorem Tab.of {w : World} (h : Lib.TabIs Tryd.prog w "internal/strconv.uint64pow10" .u64 Lib.pow10Tab) (he : ErrVar w) : Tab w := ⟨Lib.tabBelow_of_tabIs h, he⟩
def itoaS (n : Int) : ByteArray := ⟨(Lib.itoa n).toArray⟩
def fmtF (n b : Int) : Option ByteArray := if b = 10 ∧ -9223372036854775808 ≤ n ∧ n ≤ 9223372036854775807 then some (itoaS n) else none
theorem below_grow (w : World) (k : Nat) (os : Array Obj) : Below w.heap.size w (Sort.grow (w.drewN k) os) :=
  ⟨rfl, rfl, rfl, by simp [Sort.grow], fun i hi => by
    show (w.heap ++ os)[i]? = _
    rw [Array.getElem?_append_left hi]⟩
theorem fmt_calls (n b : Int) (r : ByteArray) (w : World) (hT : Tab w) (h : fmtF n b = some r) :
    Calls Tryd.prog 58 #[.int .i64 n, .int .i64 b] w fun e w' => e = .returned (.string r) ∧ Below w.heap.size w w' := by
  unfold fmtF at h
  by_cases hn : b = 10 ∧ -9223372036854775808 ≤ n ∧ n ≤ 9223372036854775807
  · rw [if_pos hn] at h
    obtain rfl := Option.some.inj h
    obtain rfl := hn.1
    refine (Tryd.strconv_FormatInt_10 n hn.2.1 hn.2.2 w hT.here).mono ?_
    rintro e w' ⟨he, k, os, rfl⟩
    exact ⟨he, below_grow w k os⟩
  · rw [if_neg hn] at h; cases h
/-- strings.Trim at the two cutsets -/
def trimF (s c : ByteArray) : Option ByteArray :=
  if s.size ≤ 9223372036854775807 ∧ (c.data.toList.all (fun b => decide (b.toNat < 128)) = true) ∧ c.size < 4294967281 then some ⟨(Lib.trimS s.data.toList c.data.toList).toArray⟩ else none
theorem trim_calls (s c r : ByteArray) (w : World) (h : trimF s c = some r) :
    Calls Tryd.prog 59 #[.string s, .string c] w fun e w' => e = .returned (.string r) ∧ Below w.heap.size w w' := by
  unfold trimF at h
  split at h
  · rename_i hc
    obtain rfl := Option.some.inj h
    exact Any.strings_Trim_laid Tryd.lays160 (by kernel_rfl) s c w hc.1 hc.2.2 (ascii_of_all hc.2.1)
  · cases h
/-- conv's digit and round -/
theorem digit_is (k : Nat) (c : UInt8) : PA.conv_digit.f (k + 2) (c.toNat : Int) = some (if dig c = 99 then 9223372036854775807 else (dig c : Int)) := by
  have hlt : c.toNat < 256 := c.toNat_lt
  have hw : wrap64 (c.toNat : Int) = c.toNat := wrap64_in (by omega)
  unfold PA.conv_digit.f
  rw [hw]
  unfold dig
  by_cases h1 : 48 ≤ c.toNat ∧ c.toNat ≤ 57
  · rw [if_pos (by omega), decide_eq_true (by omega), if_pos h1]
    simp only [PA.conv_digit.j0, if_true]
    rw [if_neg (by omega), wrap64_in (by omega)]; congr 1; omega
  · rw [if_neg h1]
    have e0 : (if (c.toNat : Int) ≥ 48 then PA.conv_digit.j0 (k + 2) (c.toNat : Int) (c.toNat : Int) (decide ((c.toNat : Int) ≤ 57)) else PA.conv_digit.j0 (k + 2) (c.toNat : Int) (c.toNat : Int) false) = PA.conv_digit.j0 (k + 2) (c.toNat : Int) (c.toNat : Int) false := by
      by_cases h : (c.toNat : Int) ≥ 48
      · rw [if_pos h, decide_eq_false (by omega)]
      · rw [if_neg h]
    rw [e0]
    simp only [PA.conv_digit.j0, PA.conv_digit.j1, if_neg (show ¬ (false = true) by decide)]
    by_cases h2 : 97 ≤ c.toNat ∧ c.toNat ≤ 122
    · rw [if_pos h2, if_pos (show (c.toNat : Int) ≥ 97 by omega), decide_eq_true (show (c.toNat : Int) ≤ 122 by omega), if_pos rfl, if_neg (by omega)]
      rw [wrap64_in (show -9223372036854775808 ≤ (c.toNat : Int) + -32 ∧ (c.toNat : Int) + -32 ≤ 9223372036854775807 by omega), wrap64_in (show -9223372036854775808 ≤ (c.toNat : Int) + -32 - 65 ∧ (c.toNat : Int) + -32 - 65 ≤ 9223372036854775807 by omega), wrap64_in (by omega)]
      congr 1; omega
    · rw [if_neg h2]
      have e1 : (if (c.toNat : Int) ≥ 97 then (if decide ((c.toNat : Int) ≤ 122) = true then some (wrap64 ((wrap64 ((wrap64 ((c.toNat : Int) + (-32))) - 65)) + 10)) else (if (c.toNat : Int) ≥ 65 then (if (c.toNat : Int) ≤ 90 then (some (wrap64 ((wrap64 ((c.toNat : Int) - 65)) + 10))) else (some 9223372036854775807)) else (some 9223372036854775807))) else (if (c.toNat : Int) ≥ 65 then (if (c.toNat : Int) ≤ 90 then (some (wrap64 ((wrap64 ((c.toNat : Int) - 65)) + 10))) else (some 9223372036854775807)) else (some 9223372036854775807))) = (if (c.toNat : Int) ≥ 65 then (if (c.toNat : Int) ≤ 90 then (some (wrap64 ((wrap64 ((c.toNat : Int) - 65)) + 10))) else (some 9223372036854775807)) else (some 9223372036854775807)) := by
        by_cases h : (c.toNat : Int) ≥ 97
        · rw [if_pos h, decide_eq_false (by omega), if_neg (by decide)]
        · rw [if_neg h]
      rw [e1]; clear e1
      by_cases h3 : 65 ≤ c.toNat ∧ c.toNat ≤ 90
      · rw [if_pos h3, if_pos (by omega), if_pos (by omega), if_neg (by omega)]
        rw [wrap64_in (show -9223372036854775808 ≤ (c.toNat : Int) - 65 ∧ (c.toNat : Int) - 65 ≤ 9223372036854775807 by omega), wrap64_in (by omega)]
        congr 1; omega
      · rw [if_neg h3]
        by_cases h4 : (c.toNat : Int) ≥ 65
        · rw [if_pos h4, if_neg (by omega)]; rfl
        · rw [if_neg h4]; rfl
theorem wrap_step (acc b d : Int) : wrap64 (wrap64 (wrap64 acc * b) + d) = wrap64 (acc * b + d) := by
  apply B_inj (wrap64_range _) (wrap64_range _)
  simp only [B_wrap, B_add, B_mul]
theorem size_list (s : ByteArray) : s.data.toList.length = s.size := by rw [Array.length_toList]; rfl
theorem selkByte (s : ByteArray) (i : Nat) (h : i < s.size) : bt s (i : Int) = (((s.data.toList[i]'(by rw [size_list]; exact h)).toNat : Nat) : Int) := by
  unfold bt; rw [dif_pos (by rw [Int.toNat_natCast]; exact h)]; rfl
theorem round_loop (s : ByteArray) (b : Nat) (hb : 2 ≤ b ∧ b ≤ 36) (hs : s.size ≤ 9223372036854775806) (d : Nat) : ∀ (k i acc : Nat), i + d = s.size → d + 4 ≤ k →
    PA.conv_round.l0 k s (b : Int) (wrap64 (acc : Int)) (s.size : Int) (i : Int) = some (if okD b (s.data.toList.drop i) = true then (wrap64 (valA b acc (s.data.toList.drop i) : Int), !s.data.toList.isEmpty) else (0, false)) := by
  induction d with
  | zero =>
    intro k i acc hi hk
    obtain ⟨k, rfl⟩ : ∃ m, k = m + 1 := ⟨k - 1, by omega⟩
    rw [PA.conv_round.l0, if_neg (by omega), List.drop_eq_nil_of_le (by rw [size_list]; omega)]
    have e : (s.toList != ([] : List UInt8)) = !s.data.toList.isEmpty := by rw [ByteArray.toList_eq]; cases s.data.toList <;> rfl
    rw [e]; rfl
  | succ d ih =>
    intro k i acc hi hk
    obtain ⟨k, rfl⟩ : ∃ m, k = m + 3 := ⟨k - 3, by omega⟩
    have hlt : i < s.size := by omega
    rw [PA.conv_round.l0, if_pos (by omega), if_pos (by omega), if_pos (by omega), selkByte s i hlt, digit_is k]
    simp only [Option.bind_some]
    rw [List.drop_eq_getElem_cons (by rw [size_list]; exact hlt)]
    generalize s.data.toList[i]'(by rw [size_list]; exact hlt) = c
    have ec : okD b (c :: s.data.toList.drop (i + 1)) = (decide (dig c < b) && okD b (s.data.toList.drop (i + 1))) := rfl
    rw [ec, valA_cons]
    by_cases h99 : dig c = 99
    · rw [if_pos h99, if_pos (by omega), decide_eq_false (by omega)]; simp
    · rw [if_neg h99]
      by_cases hd : dig c < b
      · rw [if_neg (by omega), decide_eq_true hd, Bool.true_and, wrap_step, wrap64_in (show -9223372036854775808 ≤ (i : Int) + 1 ∧ (i : Int) + 1 ≤ 9223372036854775807 by omega)]
        have := ih (k + 2) (i + 1) (acc * b + dig c) (by omega) (by omega)
        push_cast at this ⊢
        exact this
      · rw [if_pos (by omega), decide_eq_false hd]; simp
theorem round_is (s : ByteArray) (b : Nat) (hb : 2 ≤ b ∧ b ≤ 36) (hs : s.size ≤ 9223372036854775806) : PA.conv_round.f (s.size + 4) s (b : Int) = some (roundF b s.data.toList) := by
  unfold PA.conv_round.f roundF valD
  have h := round_loop s b hb hs s.size (s.size + 4) 0 0 (by omega) (by omega)
  have h0 : wrap64 ((0 : Nat) : Int) = 0 := wrap64_in (by decide)
  rw [h0, List.drop_zero] at h
  exact h
theorem ext_list (s : ByteArray) (a b : Nat) : (s.extract a b).data.toList = (s.data.toList.drop a).take (b - a) := by
  rw [Lib.extract_data]
theorem cut_is (s p : ByteArray) (hp : p.size ≤ 9223372036854775807) : PA.strings_CutPrefix.f s p = some (if p.data.toList.isPrefixOf s.data.toList = true then (s.extract p.size s.size, true) else (s, false)) := by
  unfold PA.strings_CutPrefix.f PA.stringslite_CutPrefix.f PA.stringslite_HasPrefix.f
  by_cases h : (s.size : Int) ≥ (p.size : Int)
  · rw [if_pos h, if_pos (by omega), if_pos (by omega)]; simp only [Option.bind_some]
    have e : ((s.extract 0 ((p.size : Int)).toNat).toList == p.toList) = p.data.toList.isPrefixOf s.data.toList := by
      rw [ByteArray.toList_eq, ByteArray.toList_eq, ext_list, Bool.eq_iff_iff, beq_iff_eq, List.isPrefixOf_iff_prefix, List.prefix_iff_eq_take, size_list]
      simp
      exact eq_comm
    rw [e]
    by_cases hq : p.data.toList.isPrefixOf s.data.toList = true
    · rw [if_pos hq, if_pos hq, if_pos (by omega), if_pos (by omega)]; simp
    · rw [if_neg hq, if_neg hq]; rfl
  · rw [if_neg h]; simp only [Option.bind_some]
    have : ¬ p.data.toList.isPrefixOf s.data.toList = true := by
      rw [List.isPrefixOf_iff_prefix]; intro hq
      have := hq.length_le; rw [size_list, size_list] at this; omega
    rw [if_neg this, if_neg (by decide)]; rfl
theorem hex_is (s : ByteArray) : PA.conv_hex.f s = some (if hexed s.data.toList = true then (s.extract 2 s.size, true) else (s, false)) := by
  unfold PA.conv_hex.f hexed
  rw [cut_is _ _ (by decide), cut_is _ _ (by decide)]; simp only [Option.bind_some]
  by_cases h1 : [48, 120].isPrefixOf s.data.toList = true
  · rw [if_pos h1]; simp [h1]; rfl
  · rw [if_neg h1]; simp only [Option.bind_some]
    by_cases h2 : [48, 88].isPrefixOf s.data.toList = true
    · rw [if_pos h2]; simp [h1, h2]; rfl
    · rw [if_neg h2]; simp [h1, h2]
def numF (s : ByteArray) (most : Int) : Option (Int × Bool) := if s.size ≤ 140737488351232 ∧ 0 ≤ most ∧ most ≤ 18446744073709551615 then some (numL s.data.toList most.toNat) else none
theorem bthen {a b c : World} (h : Below a.heap.size a b) (k : Below b.heap.size b c) : Below a.heap.size a c := h.trans (k.mono h.size)
theorem drawn_below {w w' : World} (h : Drawn0 w w') : Below w.heap.size w w' := h.below
theorem parse_ok (s : ByteArray) (u : Nat) (w : World) (hs : s.size ≤ 140737488351232) (h : Lib.parseUintB 64 s.data.toList = .ok u) :
    Calls Tryd.prog 86 #[.string s, .int .i64 10, .int .i64 64] w fun e w' => e = .returned (.tuple #[.int .u64 u, .nilIface]) ∧ Below w.heap.size w w' := by
  refine (Tryd.strconv_ParseUint_10_at64_ok s (by omega) u h w).mono ?_
  rintro e w' ⟨he, rfl | rfl⟩
  · exact ⟨he, Below.refl _ _⟩
  · exact ⟨he, bytes_below (Below.refl _ _) (Nat.le_refl _) _ _⟩
theorem parse_range (s : ByteArray) (w : World) (hs : s.size ≤ 140737488351232) (hT : Tab w) (h : Lib.parseUintB 64 s.data.toList = .range) :
    Calls Tryd.prog 86 #[.string s, .int .i64 10, .int .i64 64] w fun e w' => ∃ t v, e = .returned (.tuple #[.int .u64 18446744073709551615, .iface t v]) ∧ Below w.heap.size w w' := by
  obtain ⟨tp, p, hv⟩ := hT.2
  refine (Tryd.strconv_ParseUint_10_at64_range_var s (by omega) h tp p w hv).mono ?_
  rintro e w' ⟨N, he, _, _, hb⟩
  exact ⟨_, _, he, hb⟩
set_option maxHeartbeats 4000000 in
theorem numeral_calls (s : ByteArray) (most : Int) (r1 : Int) (r2 : Bool) (w : World) (hT : Tab w) (h : numF s most = some (r1, r2)) :
    Calls Tryd.prog 61 #[.string s, .int .u64 most] w fun e w' => e = .returned (.tuple #[.int .i64 r1, .bool r2]) ∧ Below w.heap.size w w' := by
  unfold numF at h
  split at h
  case isFalse => cases h
  rename_i hc
  obtain ⟨hs, hm0, hm1⟩ := hc
  have h := Option.some.inj h
  have hx := hex_is s
  unfold numL at h
  by_cases he : hexed s.data.toList = true
  · rw [if_pos he] at hx h
    have hr : PA.conv_round.f ((s.extract 2 s.size).size + 4) (s.extract 2 s.size) ((16 : Nat) : Int) = some (r1, r2) := by
      rw [round_is _ 16 (by omega) (by have := ByteArray.size_extract (a := s) (b := 2) (e := s.size); omega)]
      rw [ext_list, List.take_of_length_le (by rw [List.length_drop, size_list]; omega)]; exact congrArg some h
    have X := Lib.hid hx
    have R := Lib.hid hr
    clear hx h hr he hT hs hm0 hm1
    go_enter Tryd.func61, Tryd.ntmps61
    go_wp2_with fail
    refine (PA.conv_hex.calls _ _ _ _ X.out).mono ?_; rintro e w1 ⟨rfl, b1⟩
    have B1 := drawn_below b1
    clear b1
    go_wp2_with fail
    refine (PA.conv_round.calls _ _ _ _ _ _ R.out).mono ?_; rintro e w2 ⟨rfl, b2⟩
    go_wp2_with fail
    go_ret2
    exact ⟨rfl, bthen B1 (drawn_below b2)⟩
  · rw [if_neg he] at hx h
    have X := Lib.hid hx
    clear hx he
    by_cases h0 : s.data.toList = []
    · have e : s = ⟨#[]⟩ := WideShapes.bytes_inj h0
      rw [if_neg (fun hh => hh.2.1 h0)] at h
      obtain ⟨rfl, rfl⟩ := Prod.mk.inj h
      subst e
      clear h h0 hT hs hm0 hm1
      go_enter Tryd.func61, Tryd.ntmps61
      go_wp2_with fail
      refine (PA.conv_hex.calls _ _ _ _ X.out).mono ?_; rintro e w1 ⟨rfl, b1⟩
      have B1 := drawn_below b1
      clear b1
      go_wp2_with fail
      go_ret2
      exact ⟨rfl, B1⟩
    have hne : s.toList.isEmpty = false := by rw [ByteArray.toList_eq]; cases hl : s.data.toList with | nil => exact absurd hl h0 | cons _ _ => rfl
    have hne2 : (s.toList == ([] : List UInt8)) = false := by rw [ByteArray.toList_eq]; exact beq_eq_false_iff_ne.2 h0
    have htr : trimF s ⟨#[48, 49, 50, 51, 52, 53, 54, 55, 56, 57]⟩ = some ⟨(Lib.trimS s.data.toList decs).toArray⟩ := by
      unfold trimF; rw [if_pos ⟨by omega, by decide +kernel, by decide⟩]; rfl
    by_cases hd : okD 10 s.data.toList = true
    · have ht : Lib.trimS s.data.toList decs = [] := (trim_decs _).2 hd
      rw [ht] at htr
      have hp := parseB_dec _ hd h0
      by_cases hv : valD 10 s.data.toList < 18446744073709551616
      · rw [if_pos hv] at hp
        generalize hV : valD 10 s.data.toList = V at hp hv h
        have P := fun W => parse_ok s V W hs hp
        have TR := Lib.hid htr
        have PP := Lib.hid P
        by_cases hm : V ≤ most.toNat
        · rw [if_pos ⟨hd, h0, hv, hm⟩] at h
          obtain ⟨rfl, rfl⟩ := Prod.mk.inj h
          have g : decide (most < (V : Int)) = false := decide_eq_false (by omega)
          have gw : wrap64 (V : Int) = wrap64 (V : Int) := rfl
          clear htr P hp hV h h0 hd ht hm hm0 hm1 hT
          go_enter Tryd.func61, Tryd.ntmps61
          go_wp2_with fail
          refine (PA.conv_hex.calls _ _ _ _ X.out).mono ?_; rintro e w1 ⟨rfl, b1⟩
          have B1 := drawn_below b1
          clear b1
          go_wp2_with fail
          refine (trim_calls _ _ _ _ TR.out).mono ?_; rintro e w2 ⟨rfl, b2⟩
          go_wp2_with fail
          refine (PP.out _).mono ?_; rintro e w3 ⟨rfl, b3⟩
          go_wp2_with fail
          go_ret2
          exact ⟨by first | rfl | simp, bthen (bthen B1 b2) b3⟩
        · rw [if_neg (fun hh => hm hh.2.2.2)] at h
          obtain ⟨rfl, rfl⟩ := Prod.mk.inj h
          have g : decide (most < (V : Int)) = true := decide_eq_true (by omega)
          clear htr P hp hV h h0 hd ht hm hm0 hm1 hT
          go_enter Tryd.func61, Tryd.ntmps61
          go_wp2_with fail
          refine (PA.conv_hex.calls _ _ _ _ X.out).mono ?_; rintro e w1 ⟨rfl, b1⟩
          have B1 := drawn_below b1
          clear b1
          go_wp2_with fail
          refine (trim_calls _ _ _ _ TR.out).mono ?_; rintro e w2 ⟨rfl, b2⟩
          go_wp2_with fail
          refine (PP.out _).mono ?_; rintro e w3 ⟨rfl, b3⟩
          go_wp2_with fail
          go_ret2
          exact ⟨rfl, bthen (bthen B1 b2) b3⟩
      · rw [if_neg hv] at hp
        rw [if_neg (fun hh => hv hh.2.2.1)] at h
        obtain ⟨rfl, rfl⟩ := Prod.mk.inj h
        have TR := Lib.hid htr
        have PP := Lib.hid hp
        have TT := Lib.hid hT
        clear htr hp h h0 hd ht hv hm0 hm1 hT
        go_enter Tryd.func61, Tryd.ntmps61
        go_wp2_with fail
        refine (PA.conv_hex.calls _ _ _ _ X.out).mono ?_; rintro e w1 ⟨rfl, b1⟩
        have B1 := drawn_below b1
        clear b1
        go_wp2_with fail
        refine (trim_calls _ _ _ _ TR.out).mono ?_; rintro e w2 ⟨rfl, b2⟩
        have B2 := bthen B1 b2
        go_wp2_with fail
        refine (parse_range s _ hs (TT.out.on B2) PP.out).mono ?_; rintro e w3 ⟨t3, v3, rfl, b3⟩
        go_wp2_with fail
        go_ret2
        exact ⟨rfl, bthen B2 b3⟩
    · rw [if_neg (fun hh => hd hh.1)] at h
      obtain ⟨rfl, rfl⟩ := Prod.mk.inj h
      have ht : ¬ Lib.trimS s.data.toList decs = [] := fun e => hd ((trim_decs _).1 e)
      generalize Lib.trimS s.data.toList decs = T at htr ht
      have q1 : (⟨T.toArray⟩ : ByteArray).toList.isEmpty = false := by rw [ByteArray.toList_eq]; simp [ht]
      have q2 : T.isEmpty = false := by simp [ht]
      have q3 : (T != ([] : List UInt8)) = true := by simp [ht]
      have TR := Lib.hid htr
      clear htr h h0 hd ht hm0 hm1 hT
      go_enter Tryd.func61, Tryd.ntmps61
      go_wp2_with fail
      refine (PA.conv_hex.calls _ _ _ _ X.out).mono ?_; rintro e w1 ⟨rfl, b1⟩
      have B1 := drawn_below b1
      clear b1
      go_wp2_with fail
      refine (trim_calls _ _ _ _ TR.out).mono ?_; rintro e w2 ⟨rfl, b2⟩
      go_wp2_with fail
      go_ret2
      exact ⟨rfl, bthen B1 b2⟩
end Go.Proofs.YtpgpmldaggpciaaDoor.TabW
