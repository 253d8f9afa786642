/- Plain facts on 64-bit numbers: rounding, bits and bit vectors. No program is in sight. -/
import Derived.RowKit
import Derived.Laws.BitsLemmas
namespace Go.Proofs.YtpgpmldaggpciaaDoor.Maths
open Go.RowKit
def B (n : Int) : BitVec 64 := BitVec.ofInt 64 n
theorem i64_wrap (n : Int) : IntKind.i64.wrap n = wrap64 n := by rw [IntKind.wrap_i64]; rfl
theorem u64_wrap (n : Int) : IntKind.u64.wrap n = n % 18446744073709551616 := by simp [IntKind.wrap, IntKind.bits, IntKind.signed]
theorem wrap64_B (n : Int) : wrap64 n = (B n).toInt := by
  unfold wrap64 B; rw [BitVec.toInt_ofInt]; simp only [Int.bmod_def]; split <;> omega
theorem u64_B (n : Int) : IntKind.u64.wrap n = ((B n).toNat : Int) := by
  rw [u64_wrap]; unfold B; rw [BitVec.toNat_ofInt]; omega
theorem B_toInt (x : BitVec 64) : B x.toInt = x := by unfold B; exact BitVec.ofInt_toInt
theorem B_toNat (x : BitVec 64) : B (x.toNat : Int) = x := by unfold B; rw [BitVec.ofInt_natCast]; exact BitVec.eq_of_toNat_eq (by simp)
theorem B_wrap (n : Int) : B (wrap64 n) = B n := by rw [wrap64_B, B_toInt]
theorem B_u64 (n : Int) : B (IntKind.u64.wrap n) = B n := by rw [u64_B, B_toNat]
theorem B_add (a b : Int) : B (a + b) = B a + B b := by unfold B; exact BitVec.ofInt_add ..
theorem B_mul (a b : Int) : B (a * b) = B a * B b := by unfold B; exact BitVec.ofInt_mul ..
theorem B_neg (a : Int) : B (-a) = - B a := by unfold B; exact BitVec.ofInt_neg ..
theorem B_sub (a b : Int) : B (a - b) = B a - B b := by rw [Int.sub_eq_add_neg, B_add, B_neg, BitVec.sub_eq_add_neg]
theorem bits_i64 (op : BinOp) (a b : Int) : Go.bits op .i64 a b = (match op with | .and => B a &&& B b | .or => B a ||| B b | .xor => B a ^^^ B b | _ => B a &&& ~~~ B b).toInt := by
  unfold Go.bits; rw [i64_wrap, wrap64_B]; cases op <;> exact congrArg BitVec.toInt (B_toNat _)
theorem bits_u64 (op : BinOp) (a b : Int) : Go.bits op .u64 a b = ((match op with | .and => B a &&& B b | .or => B a ||| B b | .xor => B a ^^^ B b | _ => B a &&& ~~~ B b).toNat : Int) := by
  unfold Go.bits; rw [u64_B]; cases op <;> exact congrArg (fun x : BitVec 64 => (x.toNat : Int)) (B_toNat _)
theorem wf_i64 {a : Int} (h : (Lit.int .i64 a).wf = true) : -9223372036854775808 ≤ a ∧ a ≤ 9223372036854775807 := by
  simp [Lit.wf, IntKind.min, IntKind.max, IntKind.signed, IntKind.bits] at h; omega
theorem wf_u8 {a : Int} (h : (Lit.int .u8 a).wf = true) : 0 ≤ a ∧ a ≤ 255 := by
  simp [Lit.wf, IntKind.min, IntKind.max, IntKind.signed, IntKind.bits] at h; omega
theorem wrap64_in {a : Int} (h : -9223372036854775808 ≤ a ∧ a ≤ 9223372036854775807) : wrap64 a = a := by unfold wrap64; omega
theorem wrap64_range (a : Int) : -9223372036854775808 ≤ wrap64 a ∧ wrap64 a ≤ 9223372036854775807 := by unfold wrap64; omega
theorem B_inj {a b : Int} (ha : -9223372036854775808 ≤ a ∧ a ≤ 9223372036854775807) (hb : -9223372036854775808 ≤ b ∧ b ≤ 9223372036854775807) (h : B a = B b) : a = b := by
  have := congrArg BitVec.toInt h; rw [← wrap64_B, ← wrap64_B, wrap64_in ha, wrap64_in hb] at this; exact this
theorem toInt_B {a : Int} (ha : -9223372036854775808 ≤ a ∧ a ≤ 9223372036854775807) : (B a).toInt = a := by rw [← wrap64_B, wrap64_in ha]
theorem xor_neg (a b : Int) (ha : -9223372036854775808 ≤ a ∧ a ≤ 9223372036854775807) (hb : -9223372036854775808 ≤ b ∧ b ≤ 9223372036854775807) :
    Go.bits .xor .i64 a b < 0 ↔ (a < 0 ∧ 0 ≤ b ∨ 0 ≤ a ∧ b < 0) := by
  rw [bits_i64]
  have h1 : ((B a ^^^ B b).toInt < 0) ↔ (B a ^^^ B b).msb = true := by rw [BitVec.msb_eq_toInt]; simp
  have h2 : (B a).msb = decide (a < 0) := by rw [BitVec.msb_eq_toInt, toInt_B ha]
  have h3 : (B b).msb = decide (b < 0) := by rw [BitVec.msb_eq_toInt, toInt_B hb]
  show (B a ^^^ B b).toInt < 0 ↔ _
  rw [h1, BitVec.msb_xor, h2, h3]
  by_cases h4 : a < 0 <;> by_cases h5 : b < 0 <;> simp [h4, h5] <;> omega
theorem or_eq_add (x y : BitVec 64) : x ||| y = y + (x &&& ~~~ y) := by
  rw [BitVec.add_eq_or_of_and_eq_zero]
  · ext i hi; simp; cases x[i] <;> cases y[i] <;> simp
  · ext i hi; simp; cases x[i] <;> cases y[i] <;> simp
theorem split_and (x y : BitVec 64) : x = (x &&& y) + (x &&& ~~~ y) := by
  rw [BitVec.add_eq_or_of_and_eq_zero]
  · ext i hi; simp; cases x[i] <;> cases y[i] <;> simp
  · ext i hi; simp; cases x[i] <;> cases y[i] <;> simp
theorem or_xor_and (x y : BitVec 64) : x ||| y = (x ^^^ y) + (x &&& y) := by
  rw [BitVec.add_eq_or_of_and_eq_zero]
  · ext i hi; simp; cases x[i] <;> cases y[i] <;> simp
  · ext i hi; simp; cases x[i] <;> cases y[i] <;> simp
theorem and_add_or (x y : BitVec 64) : (x &&& y) + (x ||| y) = x + y := by
  conv => rhs; rw [split_and x y]
  rw [or_eq_add]; ac_rfl
theorem or_sub_and (x y : BitVec 64) : (x ||| y) - (x &&& y) = x ^^^ y := by
  rw [or_xor_and, BitVec.add_sub_cancel]
end Go.Proofs.YtpgpmldaggpciaaDoor.Maths
