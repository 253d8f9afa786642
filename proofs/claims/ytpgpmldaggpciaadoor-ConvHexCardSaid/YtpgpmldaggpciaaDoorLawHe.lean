/- The statement ConvHex, walked by hand. -/
import Derived.Test.YtpgpmldaggpciaaDoorLawBa
import Derived.Lib.ConvBytes
set_option linter.unusedVariables false
set_option linter.unusedSimpArgs false
namespace Go.Proofs.YtpgpmldaggpciaaDoor.Conv03
open Go.RowKit Go.Proofs.YtpgpmldaggpciaaDoorW.PrintWords Go.Proofs.YtpgpmldaggpciaaDoorW.PrintLast Go.Proofs.YtpgpmldaggpciaaDoorW.PrintMore Go.Proofs.YtpgpmldaggpciaaDoor.Maths Go.Proofs.YtpgpmldaggpciaaDoor.ConvP Go.Proofs.YtpgpmldaggpciaaDoor.TabW Go.Proofs.YtpgpmldaggpciaaDoor.HK
def upN (x : Nat) : Nat := if 97 ≤ x then x - 32 else x
def mix (l : List Nat) (j : Nat) : List Nat := (l.take j).map upN ++ l.drop j
theorem mix_len (l : List Nat) (j : Nat) : (mix l j).length = l.length := by unfold mix; rw [List.length_append, List.length_map, List.length_take, List.length_drop]; omega
theorem mix_get (l : List Nat) (j : Nat) (h : j < l.length) : (mix l j).getD j 0 = l.getD j 0 := by
  have e : ((l.take j).map upN).length = j := by rw [List.length_map, List.length_take]; omega
  unfold mix
  rw [List.getD_eq_getElem?_getD, List.getElem?_append_right (by omega), e, Nat.sub_self, List.getElem?_drop, Nat.add_zero, List.getD_eq_getElem?_getD]
theorem mix_set (l : List Nat) (j : Nat) (h : j < l.length) : (mix l j).set j (upN (l.getD j 0)) = mix l (j + 1) := by
  have e : ((l.take j).map upN).length = j := by rw [List.length_map, List.length_take]; omega
  unfold mix
  rw [List.set_append_right _ _ (by omega), e, Nat.sub_self, List.drop_eq_getElem_cons h, List.set_cons_zero, List.take_succ_eq_append_getElem h, List.map_append, List.append_assoc, List.getD_eq_getElem?_getD, List.getElem?_eq_getElem h]
  rfl
theorem mix_same (l : List Nat) (j : Nat) (h : j < l.length) (hu : upN (l.getD j 0) = l.getD j 0) : mix l j = mix l (j + 1) := by
  rw [← mix_set l j h, hu, ← mix_get l j h]
  have hl := mix_len l j
  rw [List.getD_eq_getElem?_getD, List.getElem?_eq_getElem (by omega)]
  exact (List.set_getElem_self (by omega)).symm
/-- Block b holds these bytes, and more; none of them is marked. -/
def UB (W : World) (b : Nat) (e : TypeId) (l : List Nat) (rest : Array Value) (m : Nat) : Prop := W.heap[b]? = some (.cells ((l.map fun x : Nat => Value.int .u8 (x : Int)).toArray ++ rest) e (m, m + 1)) ∧ l.length ≤ m
section
variable {W W' : World} {b m : Nat} {e : TypeId} {l : List Nat} {rest : Array Value}
theorem UB.lt (h : UB W b e l rest m) : b < W.heap.size := (Array.getElem?_eq_some_iff.1 h.1).1
theorem UB.of (h : UB W b e l rest m) (k : W'.heap[b]? = W.heap[b]?) : UB W' b e l rest m := ⟨k.trans h.1, h.2⟩
theorem UB.cell (h : UB W b e l rest m) (j : Nat) (hj : j < l.length) : W.cell? ⟨b, j, none⟩ = some (.int .u8 (l.getD j 0 : Nat)) := by
  simp [World.cell?, h.1, Array.getElem?_append, hj, List.getD_eq_getElem?_getD, List.getElem?_eq_getElem hj]
theorem UB.frozen (h : UB W b e l rest m) (j : Nat) (hj : j < l.length) : W.frozen? ⟨b, j, none⟩ = false := by
  have := h.2
  simp [World.frozen?, h.1]; omega
theorem UB.set (h : UB W b e l rest m) (j : Nat) (hj : j < l.length) (v : Nat) : UB (W.setCell ⟨b, j, none⟩ (.int .u8 (v : Int))) b e (l.set j v) rest m := by
  refine ⟨?_, by rw [List.length_set]; exact h.2⟩
  unfold World.setCell
  simp only [Array.getElem?_modify, if_true, h.1, Option.map_some]
  have : ((l.map fun x : Nat => Value.int .u8 (x : Int)).toArray ++ rest).setIfInBounds j (.int .u8 (v : Int)) = ((l.set j v).map fun x : Nat => Value.int .u8 (x : Int)).toArray ++ rest := by
    apply Array.ext'
    simp [List.map_set, List.set_append_left, hj]
  simp [this]
end
theorem UB.start (W : World) (s : ByteArray) : UB (Lib.bytesWorld W 5 s) W.heap.size 5 (s.data.toList.map UInt8.toNat) (Array.replicate (grownCap W s.size 0 5 - s.size) (.int .u8 0)) (Lib.bytesCells W 5 s).size := by
  refine ⟨?_, ?_⟩
  · rw [Lib.bytesWorld_at_new]
    have : (s.data.map fun b => Value.int .u8 (b.toNat : Int)) = ((s.data.toList.map UInt8.toNat).map fun x : Nat => Value.int .u8 (x : Int)).toArray := by
      apply Array.ext'; simp
    unfold Lib.bytesCells
    rw [this]
  · unfold Lib.bytesCells
    rw [List.length_map, Array.size_append, Array.size_map, Array.length_toList]; omega
theorem bytes_below (w W : World) (s : ByteArray) (h : Below w.heap.size w W) : Below w.heap.size w (Lib.bytesWorld W 5 s) := by
  refine h.trans (Below.mono (?_ : Below W.heap.size W (Lib.bytesWorld W 5 s)) h.size)
  exact ⟨rfl, rfl, rfl, by rw [Lib.bytesWorld_size]; omega, fun k hk => Lib.bytesWorld_at_old W 5 s k hk⟩
set_option maxHeartbeats 16000000 in
set_option maxRecDepth 20000 in
theorem hexG1 (s : ByteArray) (c : Int) (h0 : ((s.size : Int) == 0) = true) (w : World) (hT : Tab w) : Calls Tryd.prog 4 #[.string s, .int .u8 c] w fun e w' => e = .returned (.bool true) ∧ Below w.heap.size w w' := by
  have T0 := Lib.hid hT
  have H0 := Lib.hid (Below.refl w.heap.size w)
  have AL := Lib.hid (fun W hW => alive_calls W hW)
  clear hT 
  go_enter Tryd.func4, Tryd.ntmps4
  go_wp2_with (go_at_call 12; go_loud (with_reducible refine (AL.out _ T0.out).mono ?_; rintro e w1 ⟨rfl, hb⟩; have H1 := Lib.hid ((H0.out).trans (hb.mono (H0.out).size)); clear hb))
  go_ret
  exact ⟨rfl, H1.out⟩
set_option maxHeartbeats 16000000 in
set_option maxRecDepth 20000 in
theorem hexG2 (s : ByteArray) (c : Int) (h0 : ((s.size : Int) == 0) = false) (h1 : decide (100 < (s.size : Int)) = true) (w : World) (hT : Tab w) : Calls Tryd.prog 4 #[.string s, .int .u8 c] w fun e w' => e = .returned (.bool true) ∧ Below w.heap.size w w' := by
  have T0 := Lib.hid hT
  have H0 := Lib.hid (Below.refl w.heap.size w)
  have AL := Lib.hid (fun W hW => alive_calls W hW)
  clear hT 
  go_enter Tryd.func4, Tryd.ntmps4
  go_wp2_with (go_at_call 12; go_loud (with_reducible refine (AL.out _ T0.out).mono ?_; rintro e w1 ⟨rfl, hb⟩; have H1 := Lib.hid ((H0.out).trans (hb.mono (H0.out).size)); clear hb))
  go_ret
  exact ⟨rfl, H1.out⟩
theorem mix_zero (l : List Nat) : mix l 0 = l := rfl
theorem mix_all (l : List Nat) : mix l l.length = l.map upN := by unfold mix; rw [List.take_length, List.drop_length, List.append_nil]
theorem conv_back (W : World) (b cap : Nat) (l0 : List Nat) (s : ByteArray) (rest : Array Value) (m : Nat) (hb : ∀ x ∈ l0, x < 256) (hl : l0.length = s.size) (U : ByteArray) (hU : U = ⟨((mix l0 s.size).map UInt8.ofNat).toArray⟩) (h : UB W b 5 (mix l0 s.size) rest m) :
    (convert 25 9 (.slice (some ⟨b, 0, none⟩) s.size cap)).run Tryd.prog W = .ok (.string U) W := by
  have e : ((mix l0 s.size).map UInt8.ofNat).length = s.size := by rw [List.length_map, mix_len, hl]
  have := Go.run_convert_bytes_back (P := Tryd.prog) W 25 9 5 ⟨b, 0, none⟩ cap ((mix l0 s.size).map UInt8.ofNat) Tryd.underlying25 Tryd.underlying5 Tryd.underlying9 (by
    intro j hj
    have hj2 : j < (mix l0 s.size).length := by rw [List.length_map] at hj; exact hj
    have ea : (⟨b, 0, none⟩ : Addr).add j = ⟨b, j, none⟩ := by unfold Addr.add; split <;> simp_all
    rw [ea, h.cell j hj2, List.getElem_map, List.getD_eq_getElem?_getD, List.getElem?_eq_getElem hj2]
    have hx : (mix l0 s.size)[j] < 256 := by
      have hm : mix l0 s.size = l0.map upN := by rw [← hl]; exact mix_all l0
      have : (mix l0 s.size)[j] ∈ l0.map upN := hm ▸ List.getElem_mem hj2
      obtain ⟨y, hy, e⟩ := List.mem_map.1 this
      rw [← e]; have := hb y hy; unfold upN; split <;> omega
    have ex : (UInt8.ofNat (mix l0 s.size)[j]).toNat = (mix l0 s.size)[j] := UInt8.toNat_ofNat_of_lt' hx
    simp only [Option.getD_some]
    rw [ex])
  rw [e] at this
  rw [hU]; exact this
def goodAt (s : ByteArray) (q : Nat) : Prop := ∃ h : q < s.size, (48 ≤ (s[q]'h).toNat ∧ (s[q]'h).toNat ≤ 57) ∨ (97 ≤ (s[q]'h).toNat ∧ (s[q]'h).toNat ≤ 102)
set_option maxHeartbeats 16000000 in
set_option maxRecDepth 20000 in
theorem hexM (s : ByteArray) (c : Nat) (hc : c < 256) (h0 : ((s.size : Int) == 0) = false) (h1 : decide (100 < (s.size : Int)) = false) (hz : s.size ≤ 100) (v r : Int) (U : ByteArray) (hU : U = ⟨((mix (s.data.toList.map UInt8.toNat) s.size).map UInt8.ofNat).toArray⟩) (hub : (∀ q : Nat, q < s.size → goodAt s q) → (∀ W, Tab W → Calls Tryd.prog 16 #[.string ((⟨#[48, 120]⟩ : ByteArray) ++ s)] W fun e w' => e = .returned (.tuple #[.int .i64 v, .bool true]) ∧ Below W.heap.size W w') ∧ (∀ W, Tab W → Calls Tryd.prog 16 #[.string ((⟨#[48, 88]⟩ : ByteArray) ++ U)] W fun e w' => e = .returned (.tuple #[.int .i64 v, .bool true]) ∧ Below W.heap.size W w') ∧ (∀ W, Tab W → Calls Tryd.prog 15 #[.string s, .int .i64 16] W fun e w' => e = .returned (.tuple #[.int .i64 v, .bool true]) ∧ Below W.heap.size W w') ∧ (∀ W, Tab W → Calls Tryd.prog 14 #[.string ((⟨#[45, 48, 120]⟩ : ByteArray) ++ s)] W fun e w' => e = .returned (.tuple #[.int .i64 (wrap64 (-v)), .bool true]) ∧ Below W.heap.size W w')) (hF5 : (∀ q : Nat, q < s.size → goodAt s q) → ¬ ((48 ≤ c ∧ c ≤ 57) ∨ (97 ≤ c ∧ c ≤ 102) ∨ (65 ≤ c ∧ c ≤ 70)) → ∀ W, Tab W → Calls Tryd.prog 16 #[.string ((⟨#[48, 120]⟩ : ByteArray) ++ s ++ ⟨#[UInt8.ofNat c]⟩)] W fun e w' => e = .returned (.tuple #[.int .i64 r, .bool false]) ∧ Below W.heap.size W w') (w : World) (hT : Tab w) : Calls Tryd.prog 4 #[.string s, .int .u8 c] w fun e w' => e = .returned (.bool true) ∧ Below w.heap.size w w' := by
  have T0 := Lib.hid hT
  have H0 := Lib.hid (Below.refl w.heap.size w)
  have AL := Lib.hid (fun W hW => alive_calls W hW)
  have HZ := Lib.hid hz
  have HC := Lib.hid hc
  have HU := Lib.hid hU
  have HUB := Lib.hid hub
  have HF5 := Lib.hid hF5
  clear hT hc hz hU hub hF5
  go_enter Tryd.func4, Tryd.ntmps4
  go_wp2_with (go_at_call 12; go_loud (with_reducible refine (AL.out _ T0.out).mono ?_; rintro e w1 ⟨rfl, hb⟩; have H1 := Lib.hid ((H0.out).trans (hb.mono (H0.out).size)); clear hb))
  go_loop [5, 6, 31] (fun _ _ iv => ∃ j : Nat, j ≤ s.size ∧ iv = .int .i64 j ∧ Hid (∀ q : Nat, q < j → goodAt s q)) (fun _ _ iv => s.size - (intOf iv).toNat)
  case atStart => exact ⟨0, by omega, rfl, Lib.hid (fun q hq => by omega)⟩
  case round =>
    obtain ⟨j, hj, rfl, HG⟩ := hrel
    by_cases hlt : j < s.size
    · have hwj : wrap64 ((j : Int) + 1) = (j : Int) + 1 := wrap64_in (by have := HZ.out; omega)
      have hj1 : Hid (j + 1 ≤ s.size) := Lib.hid hlt
      have hiv : ((s[j]'hlt).toNat < 48) ∨ (48 ≤ (s[j]'hlt).toNat ∧ (s[j]'hlt).toNat ≤ 57) ∨ (58 ≤ (s[j]'hlt).toNat ∧ (s[j]'hlt).toNat ≤ 96) ∨ (97 ≤ (s[j]'hlt).toNat ∧ (s[j]'hlt).toNat ≤ 102) ∨ (103 ≤ (s[j]'hlt).toNat) := by clear hwj; omega
      have HW := Lib.hid hwj
      clear hwj hj
      rcases hiv with k | k | k | k | k
      · have q00 : (48 ≤ (s[j]'hlt).toNat) = False := eq_false (by omega)
        have q01 : (48 ≤ ((s[j]'hlt).toNat : Int)) = False := eq_false (by omega)
        have q10 : ((s[j]'hlt).toNat ≤ 57) = True := eq_true (by omega)
        have q11 : (((s[j]'hlt).toNat : Int) ≤ 57) = True := eq_true (by omega)
        have q20 : (97 ≤ (s[j]'hlt).toNat) = False := eq_false (by omega)
        have q21 : (97 ≤ ((s[j]'hlt).toNat : Int)) = False := eq_false (by omega)
        have q30 : ((s[j]'hlt).toNat ≤ 102) = True := eq_true (by omega)
        have q31 : (((s[j]'hlt).toNat : Int) ≤ 102) = True := eq_true (by omega)
        clear k
        go_wp2
        go_ret
        exact ⟨rfl, H1.out⟩
      · have q00 : (48 ≤ (s[j]'hlt).toNat) = True := eq_true (by omega)
        have q01 : (48 ≤ ((s[j]'hlt).toNat : Int)) = True := eq_true (by omega)
        have q10 : ((s[j]'hlt).toNat ≤ 57) = True := eq_true (by omega)
        have q11 : (((s[j]'hlt).toNat : Int) ≤ 57) = True := eq_true (by omega)
        have q20 : (97 ≤ (s[j]'hlt).toNat) = False := eq_false (by omega)
        have q21 : (97 ≤ ((s[j]'hlt).toNat : Int)) = False := eq_false (by omega)
        have q30 : ((s[j]'hlt).toNat ≤ 102) = True := eq_true (by omega)
        have q31 : (((s[j]'hlt).toNat : Int) ≤ 102) = True := eq_true (by omega)
        have HK : Hid (goodAt s j) := Lib.hid ⟨hlt, by omega⟩
        clear k
        have hwj := HW.out
        go_wp2
        go_round
        case rel => exact ⟨j + 1, hj1.out, by first | rfl | (rw [hwj]; rfl) | go_num, Lib.hid (fun q hq => by rcases Nat.lt_or_ge q j with hh | hh; exact HG.out q hh; exact (show q = j by clear hwj; omega) ▸ HK.out)⟩
        case measure => ((try rw [hwj]); clear hwj; have := hj1.out; simp only [intOf]; omega)
      · have q00 : (48 ≤ (s[j]'hlt).toNat) = True := eq_true (by omega)
        have q01 : (48 ≤ ((s[j]'hlt).toNat : Int)) = True := eq_true (by omega)
        have q10 : ((s[j]'hlt).toNat ≤ 57) = False := eq_false (by omega)
        have q11 : (((s[j]'hlt).toNat : Int) ≤ 57) = False := eq_false (by omega)
        have q20 : (97 ≤ (s[j]'hlt).toNat) = False := eq_false (by omega)
        have q21 : (97 ≤ ((s[j]'hlt).toNat : Int)) = False := eq_false (by omega)
        have q30 : ((s[j]'hlt).toNat ≤ 102) = True := eq_true (by omega)
        have q31 : (((s[j]'hlt).toNat : Int) ≤ 102) = True := eq_true (by omega)
        clear k
        go_wp2
        go_ret
        exact ⟨rfl, H1.out⟩
      · have q00 : (48 ≤ (s[j]'hlt).toNat) = True := eq_true (by omega)
        have q01 : (48 ≤ ((s[j]'hlt).toNat : Int)) = True := eq_true (by omega)
        have q10 : ((s[j]'hlt).toNat ≤ 57) = False := eq_false (by omega)
        have q11 : (((s[j]'hlt).toNat : Int) ≤ 57) = False := eq_false (by omega)
        have q20 : (97 ≤ (s[j]'hlt).toNat) = True := eq_true (by omega)
        have q21 : (97 ≤ ((s[j]'hlt).toNat : Int)) = True := eq_true (by omega)
        have q30 : ((s[j]'hlt).toNat ≤ 102) = True := eq_true (by omega)
        have q31 : (((s[j]'hlt).toNat : Int) ≤ 102) = True := eq_true (by omega)
        have HK : Hid (goodAt s j) := Lib.hid ⟨hlt, by omega⟩
        clear k
        have hwj := HW.out
        go_wp2
        go_round
        case rel => exact ⟨j + 1, hj1.out, by first | rfl | (rw [hwj]; rfl) | go_num, Lib.hid (fun q hq => by rcases Nat.lt_or_ge q j with hh | hh; exact HG.out q hh; exact (show q = j by clear hwj; omega) ▸ HK.out)⟩
        case measure => ((try rw [hwj]); clear hwj; have := hj1.out; simp only [intOf]; omega)
      · have q00 : (48 ≤ (s[j]'hlt).toNat) = True := eq_true (by omega)
        have q01 : (48 ≤ ((s[j]'hlt).toNat : Int)) = True := eq_true (by omega)
        have q10 : ((s[j]'hlt).toNat ≤ 57) = False := eq_false (by omega)
        have q11 : (((s[j]'hlt).toNat : Int) ≤ 57) = False := eq_false (by omega)
        have q20 : (97 ≤ (s[j]'hlt).toNat) = True := eq_true (by omega)
        have q21 : (97 ≤ ((s[j]'hlt).toNat : Int)) = True := eq_true (by omega)
        have q30 : ((s[j]'hlt).toNat ≤ 102) = False := eq_false (by omega)
        have q31 : (((s[j]'hlt).toNat : Int) ≤ 102) = False := eq_false (by omega)
        clear k
        go_wp2
        go_ret
        exact ⟨rfl, H1.out⟩
    · obtain rfl : j = s.size := by omega
      have hcs : ∀ W, (convert 9 25 (.string s)).run Tryd.prog W = .ok (.slice (some ⟨W.heap.size, 0, none⟩) s.size (grownCap W s.size 0 5)) (Lib.bytesWorld W 5 s) := fun W => Lib.run_convert_string_bytes W _ _ _ s Tryd.underlying9 Tryd.underlying25 Tryd.underlying5
      have GO := Lib.hid (fun q hq => HG.out q hq)
      clear hj hlt
      go_wp2
      have UB0 := Lib.hid (UB.start w1 s)
      have BW0 := Lib.hid (bytes_below w w1 s H1.out)
      have hge := Lib.hid H1.out.size
      obtain ⟨l0, hl0⟩ : ∃ l, l = (s.data.toList.map UInt8.toNat) := ⟨_, rfl⟩
      have hlen : Hid (l0.length = s.size) := Lib.hid (by rw [hl0, List.length_map, Array.length_toList]; rfl)
      rw [← hl0] at UB0 HU
      have hbyte : Hid (∀ x ∈ l0, x < 256) := Lib.hid (by intro x hx; rw [hl0] at hx; obtain ⟨y, _, rfl⟩ := List.mem_map.1 hx; exact y.toNat_lt)
      clear hl0
      generalize Lib.bytesWorld w1 5 s = W2 at UB0 BW0 ⊢
      generalize grownCap w1 s.size 0 5 = cap at UB0 ⊢
      generalize Array.replicate (cap - s.size) (Value.int .u8 0) = rest at UB0
      generalize (Lib.bytesCells w1 5 s).size = mk at UB0
      generalize w1.heap.size = bk at UB0 hge ⊢
      go_loopw [8, 57] (fun _ iv wr => ∃ j : Nat, j ≤ s.size ∧ iv = .int .i64 j ∧ Hid (Below w.heap.size w wr ∧ UB wr bk 5 (mix l0 j) rest mk)) (fun _ iv _ => s.size - (intOf iv).toNat)
      case atStart => exact ⟨0, by omega, rfl, Lib.hid ⟨BW0.out, by have := UB0.out; rw [mix_zero]; exact this⟩⟩
      case round =>
        obtain ⟨j, hj, rfl, HR⟩ := hrel
        by_cases hlt : j < s.size
        · have hjl : Hid (j < l0.length) := Lib.hid (by rw [hlen.out]; exact hlt)
          have hml : Hid (j < (mix l0 j).length) := Lib.hid (by rw [mix_len]; exact hjl.out)
          obtain ⟨x, hx⟩ : ∃ x, x = l0.getD j 0 := ⟨_, rfl⟩
          have cz := HR.out.2.cell j hml.out
          have cf := HR.out.2.frozen j hml.out
          rw [mix_get l0 j hjl.out, ← hx] at cz
          have hx256 : x < 256 := by
            rw [hx, List.getD_eq_getElem?_getD, List.getElem?_eq_getElem hjl.out]; exact hbyte.out _ (List.getElem_mem _)
          have hwj : wrap64 ((j : Int) + 1) = (j : Int) + 1 := wrap64_in (by have := HZ.out; omega)
          have HW := Lib.hid hwj
          have hj1 : Hid (j + 1 ≤ s.size) := Lib.hid hlt
          clear hwj hj
          by_cases h97 : 97 ≤ x
          · have k1 : (97 ≤ x) = True := eq_true h97
            have k2 : ((97 : Int) ≤ (x : Int)) = True := eq_true (by omega)
            have u1 : IntKind.u8.wrap ((x : Int) - 97) = (x : Int) - 97 := by rw [IntKind.wrap_u8]; omega
            have u2 : IntKind.u8.wrap ((x : Int) - 97 + 65) = ((x - 32 : Nat) : Int) := by rw [IntKind.wrap_u8]; omega
            have HN : Hid (UB (wr.setCell ⟨bk, j, none⟩ (.int .u8 ((x - 32 : Nat) : Int))) bk 5 (mix l0 (j + 1)) rest mk) := Lib.hid (by
              have hs := HR.out.2.set j hml.out (x - 32)
              have e : x - 32 = upN (l0.getD j 0) := by unfold upN; rw [← hx, if_pos h97]
              rw [e, mix_set l0 j hjl.out] at hs
              rw [e]; exact hs)
            have HB2 : Hid (Below w.heap.size w (wr.setCell ⟨bk, j, none⟩ (.int .u8 ((x - 32 : Nat) : Int)))) := Lib.hid (HR.out.1.setCell hge.out _)
            clear h97 hx256 hx
            have hwj := HW.out
            go_wp2
            go_roundw
            case rel => exact ⟨j + 1, hj1.out, by first | rfl | (rw [hwj]; rfl) | go_num, Lib.hid ⟨HB2.out, HN.out⟩⟩
            case measure => ((try rw [hwj]); clear hwj u1 u2 k1 k2; have := hj1.out; simp only [intOf]; omega)
          · have k1 : (97 ≤ x) = False := eq_false h97
            have k2 : ((97 : Int) ≤ (x : Int)) = False := eq_false (by omega)
            have HN : Hid (UB wr bk 5 (mix l0 (j + 1)) rest mk) := Lib.hid (by
              have e := mix_same l0 j hjl.out (by unfold upN; rw [← hx, if_neg h97])
              rw [← e]; exact HR.out.2)
            clear h97 hx256 hx
            have hwj := HW.out
            go_wp2
            go_roundw
            case rel => exact ⟨j + 1, hj1.out, by first | rfl | (rw [hwj]; rfl) | go_num, Lib.hid ⟨HR.out.1, HN.out⟩⟩
            case measure => ((try rw [hwj]); clear hwj k1 k2; have := hj1.out; simp only [intOf]; omega)
        · obtain rfl : j = s.size := by omega
          have FF := HUB.out GO.out
          have F1 := Lib.hid FF.1
          have F2 := Lib.hid FF.2.1
          have F3 := Lib.hid FF.2.2.1
          have F4 := Lib.hid FF.2.2.2
          have sz1 : (9223372036854775807 < 2 + s.size) = False := eq_false (by have := HZ.out; omega)
          have Usz : U.size = s.size := by rw [HU.out]; show ((mix l0 s.size).map UInt8.ofNat).toArray.size = _; rw [List.size_toArray, List.length_map, mix_len, hlen.out]
          have sz2 : (9223372036854775807 < 2 + U.size) = False := eq_false (by have := HZ.out; omega)
          have sz3 : (9223372036854775807 < 3 + s.size) = False := eq_false (by have := HZ.out; omega)
          have sz4 : (9223372036854775807 < 2 + s.size + 1) = False := eq_false (by have := HZ.out; omega)
          have sz5 : (9223372036854775807 < ((⟨#[48, 120]⟩ : ByteArray) ++ s).size + 1) = False := eq_false (by have e : (⟨#[48, 120]⟩ : ByteArray).size = 2 := rfl; rw [ByteArray.size_append, e]; have := HZ.out; omega)
          have hiv : (c < 48) ∨ (48 ≤ c ∧ c ≤ 57) ∨ (58 ≤ c ∧ c ≤ 64) ∨ (65 ≤ c ∧ c ≤ 70) ∨ (71 ≤ c ∧ c ≤ 96) ∨ (97 ≤ c ∧ c ≤ 102) ∨ (103 ≤ c) := by omega
          clear FF Usz hj hlt
          rcases hiv with k | k | k | k | k | k | k
          · have q00 : (48 ≤ c) = False := eq_false (by omega)
            have q01 : (48 ≤ (c : Int)) = False := eq_false (by omega)
            have q10 : (c ≤ 57) = True := eq_true (by omega)
            have q11 : ((c : Int) ≤ 57) = True := eq_true (by omega)
            have q20 : (97 ≤ c) = False := eq_false (by omega)
            have q21 : (97 ≤ (c : Int)) = False := eq_false (by omega)
            have q30 : (c ≤ 102) = True := eq_true (by omega)
            have q31 : ((c : Int) ≤ 102) = True := eq_true (by omega)
            have q40 : (65 ≤ c) = False := eq_false (by omega)
            have q41 : (65 ≤ (c : Int)) = False := eq_false (by omega)
            have q50 : (c ≤ 70) = True := eq_true (by omega)
            have q51 : ((c : Int) ≤ 70) = True := eq_true (by omega)
            have F5 := Lib.hid (HF5.out GO.out (by omega))
            clear k
            go_wp2_with (first | (go_at_call 16; go_loud (with_reducible refine (F1.out _ (T0.out.on HR.out.1)).mono ?_; rintro e w3 ⟨rfl, hb⟩; have H3 := Lib.hid ((HR.out.1).trans (hb.mono (HR.out.1).size)); have UB3 := Lib.hid (HR.out.2.of (hb.block _ HR.out.2.lt)); have hcv : (convert 25 9 (.slice (some ⟨bk, 0, none⟩) s.size cap)).run Tryd.prog w3 = .ok (.string U) w3 := conv_back w3 bk cap l0 s rest mk hbyte.out hlen.out U HU.out (UB3.out); clear hb)) | (go_at_call 16; go_loud (with_reducible refine (F2.out _ (T0.out.on H3.out)).mono ?_; rintro e w4 ⟨rfl, hb⟩; have H4 := Lib.hid ((H3.out).trans (hb.mono (H3.out).size)); clear hb)) | (go_at_call 15; go_loud (with_reducible refine (F3.out _ (T0.out.on H4.out)).mono ?_; rintro e w5 ⟨rfl, hb⟩; have H5 := Lib.hid ((H4.out).trans (hb.mono (H4.out).size)); clear hb)) | (go_at_call 14; go_loud (with_reducible refine (F4.out _ (T0.out.on H5.out)).mono ?_; rintro e w6 ⟨rfl, hb⟩; have H6 := Lib.hid ((H5.out).trans (hb.mono (H5.out).size)); have hcv2 : (convert 25 9 (.slice (some ⟨w6.heap.size, 0, none⟩) 1 1)).run Tryd.prog (w6.alloc (.cells #[.int .u8 c] 5)) = .ok (.string ⟨#[UInt8.ofNat c]⟩) (w6.alloc (.cells #[.int .u8 c] 5)) := Go.run_convert_bytes_back _ _ _ _ _ _ [UInt8.ofNat c] Tryd.underlying25 Tryd.underlying5 Tryd.underlying9 (byte_cell w6 c HC.out); clear hb)) | (go_at_call 16; go_loud (with_reducible refine (F5.out _ (T0.out.on (bel0 H6.out _))).mono ?_; rintro e w7 ⟨rfl, hb⟩; have H7 := Lib.hid ((bel0 H6.out _).trans (hb.mono (bel0 H6.out _).size)); clear hb)))
            go_ret
            exact ⟨rfl, H7.out⟩
          · have q00 : (48 ≤ c) = True := eq_true (by omega)
            have q01 : (48 ≤ (c : Int)) = True := eq_true (by omega)
            have q10 : (c ≤ 57) = True := eq_true (by omega)
            have q11 : ((c : Int) ≤ 57) = True := eq_true (by omega)
            have q20 : (97 ≤ c) = False := eq_false (by omega)
            have q21 : (97 ≤ (c : Int)) = False := eq_false (by omega)
            have q30 : (c ≤ 102) = True := eq_true (by omega)
            have q31 : ((c : Int) ≤ 102) = True := eq_true (by omega)
            have q40 : (65 ≤ c) = False := eq_false (by omega)
            have q41 : (65 ≤ (c : Int)) = False := eq_false (by omega)
            have q50 : (c ≤ 70) = True := eq_true (by omega)
            have q51 : ((c : Int) ≤ 70) = True := eq_true (by omega)
            clear k
            go_wp2_with (first | (go_at_call 16; go_loud (with_reducible refine (F1.out _ (T0.out.on HR.out.1)).mono ?_; rintro e w3 ⟨rfl, hb⟩; have H3 := Lib.hid ((HR.out.1).trans (hb.mono (HR.out.1).size)); have UB3 := Lib.hid (HR.out.2.of (hb.block _ HR.out.2.lt)); have hcv : (convert 25 9 (.slice (some ⟨bk, 0, none⟩) s.size cap)).run Tryd.prog w3 = .ok (.string U) w3 := conv_back w3 bk cap l0 s rest mk hbyte.out hlen.out U HU.out (UB3.out); clear hb)) | (go_at_call 16; go_loud (with_reducible refine (F2.out _ (T0.out.on H3.out)).mono ?_; rintro e w4 ⟨rfl, hb⟩; have H4 := Lib.hid ((H3.out).trans (hb.mono (H3.out).size)); clear hb)) | (go_at_call 15; go_loud (with_reducible refine (F3.out _ (T0.out.on H4.out)).mono ?_; rintro e w5 ⟨rfl, hb⟩; have H5 := Lib.hid ((H4.out).trans (hb.mono (H4.out).size)); clear hb)) | (go_at_call 14; go_loud (with_reducible refine (F4.out _ (T0.out.on H5.out)).mono ?_; rintro e w6 ⟨rfl, hb⟩; have H6 := Lib.hid ((H5.out).trans (hb.mono (H5.out).size)); clear hb)))
            go_ret
            exact ⟨rfl, H6.out⟩
          · have q00 : (48 ≤ c) = True := eq_true (by omega)
            have q01 : (48 ≤ (c : Int)) = True := eq_true (by omega)
            have q10 : (c ≤ 57) = False := eq_false (by omega)
            have q11 : ((c : Int) ≤ 57) = False := eq_false (by omega)
            have q20 : (97 ≤ c) = False := eq_false (by omega)
            have q21 : (97 ≤ (c : Int)) = False := eq_false (by omega)
            have q30 : (c ≤ 102) = True := eq_true (by omega)
            have q31 : ((c : Int) ≤ 102) = True := eq_true (by omega)
            have q40 : (65 ≤ c) = False := eq_false (by omega)
            have q41 : (65 ≤ (c : Int)) = False := eq_false (by omega)
            have q50 : (c ≤ 70) = True := eq_true (by omega)
            have q51 : ((c : Int) ≤ 70) = True := eq_true (by omega)
            have F5 := Lib.hid (HF5.out GO.out (by omega))
            clear k
            go_wp2_with (first | (go_at_call 16; go_loud (with_reducible refine (F1.out _ (T0.out.on HR.out.1)).mono ?_; rintro e w3 ⟨rfl, hb⟩; have H3 := Lib.hid ((HR.out.1).trans (hb.mono (HR.out.1).size)); have UB3 := Lib.hid (HR.out.2.of (hb.block _ HR.out.2.lt)); have hcv : (convert 25 9 (.slice (some ⟨bk, 0, none⟩) s.size cap)).run Tryd.prog w3 = .ok (.string U) w3 := conv_back w3 bk cap l0 s rest mk hbyte.out hlen.out U HU.out (UB3.out); clear hb)) | (go_at_call 16; go_loud (with_reducible refine (F2.out _ (T0.out.on H3.out)).mono ?_; rintro e w4 ⟨rfl, hb⟩; have H4 := Lib.hid ((H3.out).trans (hb.mono (H3.out).size)); clear hb)) | (go_at_call 15; go_loud (with_reducible refine (F3.out _ (T0.out.on H4.out)).mono ?_; rintro e w5 ⟨rfl, hb⟩; have H5 := Lib.hid ((H4.out).trans (hb.mono (H4.out).size)); clear hb)) | (go_at_call 14; go_loud (with_reducible refine (F4.out _ (T0.out.on H5.out)).mono ?_; rintro e w6 ⟨rfl, hb⟩; have H6 := Lib.hid ((H5.out).trans (hb.mono (H5.out).size)); have hcv2 : (convert 25 9 (.slice (some ⟨w6.heap.size, 0, none⟩) 1 1)).run Tryd.prog (w6.alloc (.cells #[.int .u8 c] 5)) = .ok (.string ⟨#[UInt8.ofNat c]⟩) (w6.alloc (.cells #[.int .u8 c] 5)) := Go.run_convert_bytes_back _ _ _ _ _ _ [UInt8.ofNat c] Tryd.underlying25 Tryd.underlying5 Tryd.underlying9 (byte_cell w6 c HC.out); clear hb)) | (go_at_call 16; go_loud (with_reducible refine (F5.out _ (T0.out.on (bel0 H6.out _))).mono ?_; rintro e w7 ⟨rfl, hb⟩; have H7 := Lib.hid ((bel0 H6.out _).trans (hb.mono (bel0 H6.out _).size)); clear hb)))
            go_ret
            exact ⟨rfl, H7.out⟩
          · have q00 : (48 ≤ c) = True := eq_true (by omega)
            have q01 : (48 ≤ (c : Int)) = True := eq_true (by omega)
            have q10 : (c ≤ 57) = False := eq_false (by omega)
            have q11 : ((c : Int) ≤ 57) = False := eq_false (by omega)
            have q20 : (97 ≤ c) = False := eq_false (by omega)
            have q21 : (97 ≤ (c : Int)) = False := eq_false (by omega)
            have q30 : (c ≤ 102) = True := eq_true (by omega)
            have q31 : ((c : Int) ≤ 102) = True := eq_true (by omega)
            have q40 : (65 ≤ c) = True := eq_true (by omega)
            have q41 : (65 ≤ (c : Int)) = True := eq_true (by omega)
            have q50 : (c ≤ 70) = True := eq_true (by omega)
            have q51 : ((c : Int) ≤ 70) = True := eq_true (by omega)
            clear k
            go_wp2_with (first | (go_at_call 16; go_loud (with_reducible refine (F1.out _ (T0.out.on HR.out.1)).mono ?_; rintro e w3 ⟨rfl, hb⟩; have H3 := Lib.hid ((HR.out.1).trans (hb.mono (HR.out.1).size)); have UB3 := Lib.hid (HR.out.2.of (hb.block _ HR.out.2.lt)); have hcv : (convert 25 9 (.slice (some ⟨bk, 0, none⟩) s.size cap)).run Tryd.prog w3 = .ok (.string U) w3 := conv_back w3 bk cap l0 s rest mk hbyte.out hlen.out U HU.out (UB3.out); clear hb)) | (go_at_call 16; go_loud (with_reducible refine (F2.out _ (T0.out.on H3.out)).mono ?_; rintro e w4 ⟨rfl, hb⟩; have H4 := Lib.hid ((H3.out).trans (hb.mono (H3.out).size)); clear hb)) | (go_at_call 15; go_loud (with_reducible refine (F3.out _ (T0.out.on H4.out)).mono ?_; rintro e w5 ⟨rfl, hb⟩; have H5 := Lib.hid ((H4.out).trans (hb.mono (H4.out).size)); clear hb)) | (go_at_call 14; go_loud (with_reducible refine (F4.out _ (T0.out.on H5.out)).mono ?_; rintro e w6 ⟨rfl, hb⟩; have H6 := Lib.hid ((H5.out).trans (hb.mono (H5.out).size)); clear hb)))
            go_ret
            exact ⟨rfl, H6.out⟩
          · have q00 : (48 ≤ c) = True := eq_true (by omega)
            have q01 : (48 ≤ (c : Int)) = True := eq_true (by omega)
            have q10 : (c ≤ 57) = False := eq_false (by omega)
            have q11 : ((c : Int) ≤ 57) = False := eq_false (by omega)
            have q20 : (97 ≤ c) = False := eq_false (by omega)
            have q21 : (97 ≤ (c : Int)) = False := eq_false (by omega)
            have q30 : (c ≤ 102) = True := eq_true (by omega)
            have q31 : ((c : Int) ≤ 102) = True := eq_true (by omega)
            have q40 : (65 ≤ c) = True := eq_true (by omega)
            have q41 : (65 ≤ (c : Int)) = True := eq_true (by omega)
            have q50 : (c ≤ 70) = False := eq_false (by omega)
            have q51 : ((c : Int) ≤ 70) = False := eq_false (by omega)
            have F5 := Lib.hid (HF5.out GO.out (by omega))
            clear k
            go_wp2_with (first | (go_at_call 16; go_loud (with_reducible refine (F1.out _ (T0.out.on HR.out.1)).mono ?_; rintro e w3 ⟨rfl, hb⟩; have H3 := Lib.hid ((HR.out.1).trans (hb.mono (HR.out.1).size)); have UB3 := Lib.hid (HR.out.2.of (hb.block _ HR.out.2.lt)); have hcv : (convert 25 9 (.slice (some ⟨bk, 0, none⟩) s.size cap)).run Tryd.prog w3 = .ok (.string U) w3 := conv_back w3 bk cap l0 s rest mk hbyte.out hlen.out U HU.out (UB3.out); clear hb)) | (go_at_call 16; go_loud (with_reducible refine (F2.out _ (T0.out.on H3.out)).mono ?_; rintro e w4 ⟨rfl, hb⟩; have H4 := Lib.hid ((H3.out).trans (hb.mono (H3.out).size)); clear hb)) | (go_at_call 15; go_loud (with_reducible refine (F3.out _ (T0.out.on H4.out)).mono ?_; rintro e w5 ⟨rfl, hb⟩; have H5 := Lib.hid ((H4.out).trans (hb.mono (H4.out).size)); clear hb)) | (go_at_call 14; go_loud (with_reducible refine (F4.out _ (T0.out.on H5.out)).mono ?_; rintro e w6 ⟨rfl, hb⟩; have H6 := Lib.hid ((H5.out).trans (hb.mono (H5.out).size)); have hcv2 : (convert 25 9 (.slice (some ⟨w6.heap.size, 0, none⟩) 1 1)).run Tryd.prog (w6.alloc (.cells #[.int .u8 c] 5)) = .ok (.string ⟨#[UInt8.ofNat c]⟩) (w6.alloc (.cells #[.int .u8 c] 5)) := Go.run_convert_bytes_back _ _ _ _ _ _ [UInt8.ofNat c] Tryd.underlying25 Tryd.underlying5 Tryd.underlying9 (byte_cell w6 c HC.out); clear hb)) | (go_at_call 16; go_loud (with_reducible refine (F5.out _ (T0.out.on (bel0 H6.out _))).mono ?_; rintro e w7 ⟨rfl, hb⟩; have H7 := Lib.hid ((bel0 H6.out _).trans (hb.mono (bel0 H6.out _).size)); clear hb)))
            go_ret
            exact ⟨rfl, H7.out⟩
          · have q00 : (48 ≤ c) = True := eq_true (by omega)
            have q01 : (48 ≤ (c : Int)) = True := eq_true (by omega)
            have q10 : (c ≤ 57) = False := eq_false (by omega)
            have q11 : ((c : Int) ≤ 57) = False := eq_false (by omega)
            have q20 : (97 ≤ c) = True := eq_true (by omega)
            have q21 : (97 ≤ (c : Int)) = True := eq_true (by omega)
            have q30 : (c ≤ 102) = True := eq_true (by omega)
            have q31 : ((c : Int) ≤ 102) = True := eq_true (by omega)
            have q40 : (65 ≤ c) = True := eq_true (by omega)
            have q41 : (65 ≤ (c : Int)) = True := eq_true (by omega)
            have q50 : (c ≤ 70) = False := eq_false (by omega)
            have q51 : ((c : Int) ≤ 70) = False := eq_false (by omega)
            clear k
            go_wp2_with (first | (go_at_call 16; go_loud (with_reducible refine (F1.out _ (T0.out.on HR.out.1)).mono ?_; rintro e w3 ⟨rfl, hb⟩; have H3 := Lib.hid ((HR.out.1).trans (hb.mono (HR.out.1).size)); have UB3 := Lib.hid (HR.out.2.of (hb.block _ HR.out.2.lt)); have hcv : (convert 25 9 (.slice (some ⟨bk, 0, none⟩) s.size cap)).run Tryd.prog w3 = .ok (.string U) w3 := conv_back w3 bk cap l0 s rest mk hbyte.out hlen.out U HU.out (UB3.out); clear hb)) | (go_at_call 16; go_loud (with_reducible refine (F2.out _ (T0.out.on H3.out)).mono ?_; rintro e w4 ⟨rfl, hb⟩; have H4 := Lib.hid ((H3.out).trans (hb.mono (H3.out).size)); clear hb)) | (go_at_call 15; go_loud (with_reducible refine (F3.out _ (T0.out.on H4.out)).mono ?_; rintro e w5 ⟨rfl, hb⟩; have H5 := Lib.hid ((H4.out).trans (hb.mono (H4.out).size)); clear hb)) | (go_at_call 14; go_loud (with_reducible refine (F4.out _ (T0.out.on H5.out)).mono ?_; rintro e w6 ⟨rfl, hb⟩; have H6 := Lib.hid ((H5.out).trans (hb.mono (H5.out).size)); clear hb)))
            go_ret
            exact ⟨rfl, H6.out⟩
          · have q00 : (48 ≤ c) = True := eq_true (by omega)
            have q01 : (48 ≤ (c : Int)) = True := eq_true (by omega)
            have q10 : (c ≤ 57) = False := eq_false (by omega)
            have q11 : ((c : Int) ≤ 57) = False := eq_false (by omega)
            have q20 : (97 ≤ c) = True := eq_true (by omega)
            have q21 : (97 ≤ (c : Int)) = True := eq_true (by omega)
            have q30 : (c ≤ 102) = False := eq_false (by omega)
            have q31 : ((c : Int) ≤ 102) = False := eq_false (by omega)
            have q40 : (65 ≤ c) = True := eq_true (by omega)
            have q41 : (65 ≤ (c : Int)) = True := eq_true (by omega)
            have q50 : (c ≤ 70) = False := eq_false (by omega)
            have q51 : ((c : Int) ≤ 70) = False := eq_false (by omega)
            have F5 := Lib.hid (HF5.out GO.out (by omega))
            clear k
            go_wp2_with (first | (go_at_call 16; go_loud (with_reducible refine (F1.out _ (T0.out.on HR.out.1)).mono ?_; rintro e w3 ⟨rfl, hb⟩; have H3 := Lib.hid ((HR.out.1).trans (hb.mono (HR.out.1).size)); have UB3 := Lib.hid (HR.out.2.of (hb.block _ HR.out.2.lt)); have hcv : (convert 25 9 (.slice (some ⟨bk, 0, none⟩) s.size cap)).run Tryd.prog w3 = .ok (.string U) w3 := conv_back w3 bk cap l0 s rest mk hbyte.out hlen.out U HU.out (UB3.out); clear hb)) | (go_at_call 16; go_loud (with_reducible refine (F2.out _ (T0.out.on H3.out)).mono ?_; rintro e w4 ⟨rfl, hb⟩; have H4 := Lib.hid ((H3.out).trans (hb.mono (H3.out).size)); clear hb)) | (go_at_call 15; go_loud (with_reducible refine (F3.out _ (T0.out.on H4.out)).mono ?_; rintro e w5 ⟨rfl, hb⟩; have H5 := Lib.hid ((H4.out).trans (hb.mono (H4.out).size)); clear hb)) | (go_at_call 14; go_loud (with_reducible refine (F4.out _ (T0.out.on H5.out)).mono ?_; rintro e w6 ⟨rfl, hb⟩; have H6 := Lib.hid ((H5.out).trans (hb.mono (H5.out).size)); have hcv2 : (convert 25 9 (.slice (some ⟨w6.heap.size, 0, none⟩) 1 1)).run Tryd.prog (w6.alloc (.cells #[.int .u8 c] 5)) = .ok (.string ⟨#[UInt8.ofNat c]⟩) (w6.alloc (.cells #[.int .u8 c] 5)) := Go.run_convert_bytes_back _ _ _ _ _ _ [UInt8.ofNat c] Tryd.underlying25 Tryd.underlying5 Tryd.underlying9 (byte_cell w6 c HC.out); clear hb)) | (go_at_call 16; go_loud (with_reducible refine (F5.out _ (T0.out.on (bel0 H6.out _))).mono ?_; rintro e w7 ⟨rfl, hb⟩; have H7 := Lib.hid ((bel0 H6.out _).trans (hb.mono (bel0 H6.out _).size)); clear hb)))
            go_ret
            exact ⟨rfl, H7.out⟩
theorem dig_good (b : UInt8) (h : (48 ≤ b.toNat ∧ b.toNat ≤ 57) ∨ (97 ≤ b.toNat ∧ b.toNat ≤ 102)) : dig b < 16 ∧ blank b = false ∧ dig (UInt8.ofNat (upN b.toNat)) = dig b := by
  have hlt : upN b.toNat < 256 := by unfold upN; split <;> omega
  have hup : (UInt8.ofNat (upN b.toNat)).toNat = upN b.toNat := UInt8.toNat_ofNat_of_lt' hlt
  refine ⟨?_, ?_, ?_⟩
  · unfold dig
    rcases h with h | h
    · rw [if_pos h]; omega
    · rw [if_neg (by omega), if_pos (by omega)]; omega
  · unfold blank; rw [decide_eq_false_iff_not]; omega
  · rcases h with h | h
    · have hy : upN b.toNat = b.toNat := by unfold upN; rw [if_neg (by omega)]
      rw [hy] at hup
      unfold dig; rw [hy, hup]
    · have hy : upN b.toNat = b.toNat - 32 := by unfold upN; rw [if_pos h.1]
      rw [hy] at hup
      unfold dig
      rw [hy, hup, if_neg (by omega), if_neg (by omega), if_pos (by omega), if_neg (by omega), if_pos (by omega)]; omega
theorem valA_map (f : UInt8 → UInt8) (b : Nat) : ∀ (l : List UInt8) (a : Nat), (∀ x ∈ l, dig (f x) = dig x) → valA b a (l.map f) = valA b a l
  | [], _, _ => rfl
  | x :: l, a, h => by rw [List.map_cons, valA_cons, valA_cons, h x (by simp), valA_map f b l _ (fun y hy => h y (by simp [hy]))]
theorem okD_map (f : UInt8 → UInt8) (b : Nat) : ∀ (l : List UInt8), (∀ x ∈ l, dig (f x) = dig x) → okD b (l.map f) = okD b l
  | [], _ => rfl
  | x :: l, h => by
    show (decide (dig (f x) < b) && okD b (l.map f)) = (decide (dig x < b) && okD b l)
    rw [h x (by simp), okD_map f b l (fun y hy => h y (by simp [hy]))]
theorem round16 (l : List UInt8) (h : okD 16 l = true) (hne : l ≠ []) : roundF 16 l = (wrap64 (valD 16 l : Int), true) := by
  unfold roundF; rw [if_pos h]
  cases l with
  | nil => exact absurd rfl hne
  | cons => rfl
theorem numL_hex (l : List UInt8) (most : Nat) (a : UInt8) (ha : a = 120 ∨ a = 88) : numL (48 :: a :: l) most = roundF 16 l := by
  unfold numL
  rw [if_pos (by rcases ha with rfl | rfl <;> simp [hexed, List.isPrefixOf])]
  rfl
theorem app_lists (x y : ByteArray) : (x ++ y).data.toList = x.data.toList ++ y.data.toList := by rw [ByteArray.data_append, Array.toList_append]
theorem hex_walk (s : ByteArray) (c : Int) (hc : 0 ≤ c ∧ c ≤ 255) (w : World) (hT : Tab w) : Calls Tryd.prog 4 #[.string s, .int .u8 c] w fun e w' => e = .returned (.bool true) ∧ Below w.heap.size w w' := by
  by_cases h0 : s.size = 0
  · exact hexG1 s c (by rw [h0]; rfl) w hT
  have h0' : ((s.size : Int) == 0) = false := by rw [beq_eq_false_iff_ne]; omega
  by_cases h1 : 100 < (s.size : Int)
  · exact hexG2 s c h0' (decide_eq_true h1) w hT
  obtain ⟨c, rfl⟩ := Int.eq_ofNat_of_zero_le hc.1
  have hz := size_list s
  obtain ⟨l, hl⟩ : ∃ l, l = s.data.toList := ⟨_, rfl⟩
  have hne : l ≠ [] := by rintro rfl; rw [← hl] at hz; simp at hz; omega
  have hcc : c < 256 := by omega
  have good : (∀ q : Nat, q < s.size → goodAt s q) → ∀ x ∈ l, (48 ≤ x.toNat ∧ x.toNat ≤ 57) ∨ (97 ≤ x.toNat ∧ x.toNat ≤ 102) := by
    intro hg x hx
    obtain ⟨q, hq, rfl⟩ := List.getElem_of_mem hx
    rw [hl] at hq
    obtain ⟨hq2, h⟩ := hg q (by omega)
    have e : l[q] = s[q]'hq2 := by subst hl; simp; rfl
    rw [e]; exact h
  obtain ⟨U, hU⟩ : ∃ U : ByteArray, U = ⟨((mix (s.data.toList.map UInt8.toNat) s.size).map UInt8.ofNat).toArray⟩ := ⟨_, rfl⟩
  have hUl : U.data.toList = l.map (fun b => UInt8.ofNat (upN b.toNat)) := by
    have e : mix (s.data.toList.map UInt8.toNat) s.size = (s.data.toList.map UInt8.toNat).map upN := by
      have := mix_all (s.data.toList.map UInt8.toNat)
      rw [List.length_map, hz] at this; exact this
    rw [hU, e, ← hl]; simp
  have uz : U.size = s.size := by
    have := size_list U
    rw [hUl, List.length_map, hl] at this; omega
  have o1 : (⟨#[48, 120]⟩ : ByteArray).size = 2 := rfl
  have o2 : (⟨#[48, 88]⟩ : ByteArray).size = 2 := rfl
  have o3 : (⟨#[45, 48, 120]⟩ : ByteArray).size = 3 := rfl
  have x1 : ((⟨#[48, 120]⟩ : ByteArray) ++ s).data.toList = 48 :: 120 :: l := by rw [app_lists, hl]; rfl
  have x2 : ((⟨#[48, 88]⟩ : ByteArray) ++ U).data.toList = 48 :: 88 :: U.data.toList := by rw [app_lists]; rfl
  have x3 : ((⟨#[45, 48, 120]⟩ : ByteArray) ++ s).data.toList = 45 :: 48 :: 120 :: l := by rw [app_lists, hl]; rfl
  have x4 : ((⟨#[48, 120]⟩ : ByteArray) ++ s ++ (⟨#[UInt8.ofNat c]⟩ : ByteArray)).data.toList = 48 :: 120 :: (l ++ [UInt8.ofNat c]) := by rw [app_lists, x1]; rfl
  refine hexM s c hcc h0' (decide_eq_false h1) (by omega) (wrap64 (valD 16 l : Int)) 0 U hU (fun hg => ?_) (fun hg hn => ?_) w hT
  · have hgd := good hg
    have ok : okD 16 l = true := by unfold okD; rw [List.all_eq_true]; intro x hx; simpa using (dig_good x (hgd x hx)).1
    have dm : ∀ x ∈ l, dig ((fun b : UInt8 => UInt8.ofNat (upN b.toNat)) x) = dig x := fun x hx => (dig_good x (hgd x hx)).2.2
    have okU : okD 16 U.data.toList = true := by rw [hUl, okD_map _ 16 l dm]; exact ok
    have vU : valD 16 U.data.toList = valD 16 l := by rw [hUl]; exact valA_map _ 16 l 0 dm
    have neU : U.data.toList ≠ [] := by rw [hUl]; simpa using hne
    have ts : trimB s = s := trimB_solid s (fun x hx => (dig_good x (hgd x (by rw [hl]; exact hx))).2.1) (by rw [← hl]; exact hne)
    have t3 : trimB ((⟨#[45, 48, 120]⟩ : ByteArray) ++ s) = (⟨#[45, 48, 120]⟩ : ByteArray) ++ s := trimB_solid _ (fun x hx => by
      rw [x3] at hx
      rcases List.mem_cons.1 hx with rfl | hx
      · decide
      rcases List.mem_cons.1 hx with rfl | hx
      · decide
      rcases List.mem_cons.1 hx with rfl | hx
      · decide
      · exact (dig_good x (hgd x hx)).2.1) (by rw [x3]; simp)
    have r1 := round16 l ok hne
    have a45 : [(45 : UInt8)].isPrefixOf l = false := by
      cases hq : l with
      | nil => rfl
      | cons a t =>
        have := okD_mem (b := 16) (l := l) ok a (by rw [hq]; simp)
        have e : ((45 : UInt8) == a) = false := beq_eq_false_iff_ne.2 (by rintro rfl; revert this; decide)
        rw [List.isPrefixOf_cons_cons, e]; rfl
    refine ⟨fun W hW => numeral2_calls _ _ true W hW ?_, fun W hW => numeral2_calls _ _ true W hW ?_, fun W hW => base_calls _ 16 _ true W hW ?_, fun W hW => toInt_calls _ _ true W hW ?_⟩
    · unfold numeral2F GF
      rw [if_pos (by rw [ByteArray.size_append, o1]; omega), x1, numL_hex l _ 120 (Or.inl rfl), r1]
    · unfold numeral2F GF
      rw [if_pos (by rw [ByteArray.size_append, o2, uz]; omega), x2, numL_hex _ _ 88 (Or.inr rfl), round16 _ okU neU, vU]
    · unfold baseF GF
      rw [if_pos (by omega), ts]
      unfold baseT ahead
      rw [if_neg (by decide), ← hl, a45, if_neg (by decide)]
      show some (roundF 16 l) = _
      rw [r1]
    · unfold toIntF GF
      rw [if_pos (by rw [ByteArray.size_append, o3]; omega), t3]
      unfold toIntT ahead
      rw [x3, if_pos (by simp [List.isPrefixOf]), List.drop_one, List.tail_cons, numL_hex l _ 120 (Or.inl rfl), r1]
  · intro W hW
    refine numeral2_calls _ _ false W hW ?_
    unfold numeral2F GF
    have o4 : (⟨#[UInt8.ofNat c]⟩ : ByteArray).size = 1 := rfl
    rw [if_pos (by rw [ByteArray.size_append, ByteArray.size_append, o1, o4]; omega), x4, numL_hex _ _ 120 (Or.inl rfl)]
    have ec : (UInt8.ofNat c).toNat = c := UInt8.toNat_ofNat_of_lt' hcc
    have hd : ¬ dig (UInt8.ofNat c) < 16 := by
      unfold dig
      rw [ec, if_neg (by omega)]
      split
      · omega
      · split <;> omega
    have no : okD 16 (l ++ [UInt8.ofNat c]) = false := by
      rw [okD_app]
      have : okD 16 [UInt8.ofNat c] = false := by unfold okD; simp [hd]
      rw [this, Bool.and_false]
    unfold roundF
    rw [no, if_neg (by decide)]
end Go.Proofs.YtpgpmldaggpciaaDoor.Conv03
