/- The plain laws of layer 3. -/
import Derived.Test.YtjbnlebnofnkoaaDoorDig
import Derived.Test.YtjbnlebnofnkoaaDoorPAllx1
import Derived.Test.YtjbnlebnofnkoaaDoorPAllx2
import Derived.Test.YtjbnlebnofnkoaaDoorPAllx4
import Derived.Test.YtjbnlebnofnkoaaDoorPAllx5
import Derived.Test.YtjbnlebnofnkoaaDoorPAllx6
set_option linter.unusedVariables false
set_option linter.unusedSimpArgs false
namespace Go.Proofs.YtjbnlebnofnkoaaDoor.Conv03
open Go.RowKit Go.Proofs.YtjbnlebnofnkoaaDoor.PAll Go.Proofs.YtjbnlebnofnkoaaDoorW.PrintWords Go.Proofs.YtjbnlebnofnkoaaDoorW.PrintLast Go.Proofs.YtjbnlebnofnkoaaDoorW.PrintMore Go.Proofs.YtjbnlebnofnkoaaDoor.Maths Go.Proofs.YtjbnlebnofnkoaaDoor.ConvP Go.Proofs.YtjbnlebnofnkoaaDoor.TabW
theorem print_is (n : Int) (hn : -9223372036854775808 ≤ n ∧ n ≤ 9223372036854775807) : conv_Print.f n = some (itoaS n) := by
  unfold conv_Print.f strconv_FormatInt.f fmtF; rw [if_pos ⟨rfl, hn⟩]; rfl
theorem print20 : itoaS (-20) = ⟨#[45, 50, 48]⟩ := by
  have : Lib.itoa (-20) = [45, 50, 48] := by
    have := itoa_neg 20 (by decide)
    rw [dec_big 20 (by decide), Lib.decDigits_one (by decide)] at this
    exact this
  unfold itoaS; rw [this]
theorem alive_is (k : Nat) : selkielaw03_alive.f (k + 20) = some true := by
  unfold selkielaw03_alive.f
  rw [toInt_is _ (by decide), toInt_is _ (by decide), numeral_is _ (by decide), base_is _ 36 (by decide) (k + 20) (by show 2 + 6 ≤ _; omega)]
  have e : conv_Number.f 3 0 ⟨#[49, 97]⟩ = some (toIntT (trimB ⟨#[49, 97]⟩)) := by
    unfold conv_Number.f; rw [if_neg (by decide), if_pos rfl, toInt_is _ (by decide)]; rfl
  rw [e, print_is _ (by decide), print20]
  decide +kernel
theorem reads_is (s : ByteArray) (b : Int) : selkielaw03_ConvReads.f 30000 s b = some true := by
  unfold selkielaw03_ConvReads.f
  rw [alive_is]; simp only [Option.bind_some, if_true]
  by_cases h : (s.size : Int) > 10000
  · rw [if_pos h]
  · rw [if_neg h, numeral_is s (by omega), rnumeral_is s (by omega) _ (by omega), toInt_is s (by omega), rtoInt_is s (by omega) _ (by omega), base_is s b (by omega) _ (by omega), rbase_is s b (by omega) _ (by omega)]
    simp
theorem reads_walk (s : ByteArray) (b : Int) (w : World) (hT : Tab w) :
    Calls Tryd.prog 3 #[.string s, .int .i64 b] w fun e w' => e = .returned (.bool true) ∧ Below w.heap.size w w' :=
  selkielaw03_ConvReads.calls 30000 s b true w hT rfl (reads_is s b)
theorem number_is (k n : Int) (s : ByteArray) (hs : s.size ≤ 10000) : ∃ r, conv_Number.f k n s = some r ∧ ∀ j, 30000 ≤ j → selkieref03_Number.f j k n s = some r := by
  unfold selkieref03_Number.f conv_Number.f
  rw [toInt_is s (by omega)]
  by_cases h2 : k = 2
  · simp only [if_pos h2]; exact ⟨_, rfl, fun _ _ => rfl⟩
  simp only [if_neg h2]
  by_cases h3 : k = 3
  · simp only [if_pos h3]; exact ⟨_, rfl, fun j hj => by rw [rtoInt_is s (by omega) _ (by omega)]; rfl⟩
  simp only [if_neg h3]; exact ⟨_, rfl, fun _ _ => rfl⟩
theorem string_is (k n : Int) (s : ByteArray) (hn : -9223372036854775808 ≤ n ∧ n ≤ 9223372036854775807) : ∃ r K, conv_String.f k n s = some r ∧ ∀ j, K ≤ j → selkieref03_String.f j k n s = some r := by
  unfold selkieref03_String.f conv_String.f
  rw [print_is n hn]
  obtain ⟨K, hK⟩ := rdigits_is n hn
  by_cases h2 : k = 2
  · simp only [if_pos h2]; exact ⟨_, K, rfl, fun j hj => by rw [hK j hj]; rfl⟩
  simp only [if_neg h2]
  by_cases h3 : k = 3
  · simp only [if_pos h3]; exact ⟨_, 0, rfl, fun _ _ => rfl⟩
  simp only [if_neg h3]; exact ⟨_, 0, rfl, fun _ _ => rfl⟩
theorem values_is (a k n : Int) (s : ByteArray) (ha : -9223372036854775808 ≤ a ∧ a ≤ 9223372036854775807) (hn : -9223372036854775808 ≤ n ∧ n ≤ 9223372036854775807) : ∃ j, selkielaw03_ConvValues.f j a k n s = some true := by
  by_cases h : (s.size : Int) > 10000
  · refine ⟨20, ?_⟩
    unfold selkielaw03_ConvValues.f
    rw [alive_is 0]; simp only [Option.bind_some, if_true]; rw [if_pos h]
  · obtain ⟨r1, e1, f1⟩ := number_is k n s (by omega)
    obtain ⟨r2, K2, e2, f2⟩ := string_is k n s hn
    obtain ⟨K3, f3⟩ := rdigits_is a ha
    refine ⟨K2 + K3 + 30000 + 20, ?_⟩
    unfold selkielaw03_ConvValues.f
    rw [alive_is]; simp only [Option.bind_some, if_true]; rw [if_neg h, e1, f1 _ (by omega), e2, f2 _ (by omega), print_is a ha, f3 _ (by omega)]
    simp
theorem values_walk (a k n : Int) (s : ByteArray) (w : World) (hT : Tab w) (ha : -9223372036854775808 ≤ a ∧ a ≤ 9223372036854775807) (hn : -9223372036854775808 ≤ n ∧ n ≤ 9223372036854775807) :
    Calls Tryd.prog 7 #[.int .i64 a, .agg #[.int .i64 k, .int .i64 n, .string s]] w fun e w' => e = .returned (.bool true) ∧ Below w.heap.size w w' := by
  obtain ⟨j, hj⟩ := values_is a k n s ha hn
  exact selkielaw03_ConvValues.calls j a k n s true w hT rfl hj
end Go.Proofs.YtjbnlebnofnkoaaDoor.Conv03
