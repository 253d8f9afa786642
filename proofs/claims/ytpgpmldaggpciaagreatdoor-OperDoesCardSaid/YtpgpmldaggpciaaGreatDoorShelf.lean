/-
  DERIVED: THE SHELF's CONTRACTS AT THIS DUMP, IN PLAIN WORDS (tools/lay-plain.mjs out of 'TryzShelf.lean', which tools/lay-shelf.mjs wrote): THE SAME DECLARATIONS UNDER THE SAME NAMES: 'import', 'namespace', 'open', 'def', 'theorem' AND NOTHING ELSE: no command of the shelf's: FOR A HAND-IN. Each laying: the table of numbers ('.._ren') and one theorem, a field a fact of the dump's own or the kernel's comparison; each contract: ONE APPLICATION.
-/
import Derived.Shelf.Strings.Trim
import Derived.Shelf.Small.Utf8
import Derived.Shelf.Small.Strs
import Derived.Shelf.Small.Wraps
import Derived.Shelf.Strconv.Itoa0
import Derived.Shelf.Strconv.Itoa1
import Derived.Shelf.LaysM
import Derived.Shelf.Strconv.Itoa2
import Derived.Shelf.Strconv.Itoa3
import Derived.Shelf.Strconv.Itoa4
import Derived.Shelf.Strconv.Clone
import Derived.Shelf.Strconv.SyntaxError
import Derived.Shelf.LaysC
import Derived.Shelf.Strconv.ToError
import Derived.Shelf.Strconv.Lower
import Derived.Shelf.Strconv.ParseUint10
import Derived.Shelf.Strconv.ParseUint10Empty
import Derived.Shelf.Strconv.ParseUint10Any
import Derived.Shelf.Strconv.RangeError
import Derived.Shelf.Strconv.ToErrorRange
import Derived.Shelf.Strconv.ParseUintEmpty
import Derived.Shelf.Strconv.ParseUint10b64
import Derived.Shelf.Strconv.ParseUint10b32
import Derived.Shelf.Strconv.ParseUint10b16
import Derived.Shelf.Strconv.ParseUint10b8
import Derived.Shelf.Strconv.ParseUint10At
import Derived.Ground.MpProg
import Derived.Shelf.Pu.ParseUintPublic10
import Derived.Shelf.Pu.ErrVarParseUint
import Derived.Shelf.Strings.Search1
import Derived.Shelf.Strings.Prefix
import Derived.Shelf.Unicode.Decode
import Derived.Shelf.Strings.Runes
import Derived.Shelf.Strings.AsciiSet
import Derived.Shelf.Unicode.DecodeSlow
import Derived.Shelf.Unicode.DecodeAny
import Derived.Shelf.Unicode.DecodeLast
import Derived.Test.YtpgpmldaggpciaaGreatDoorProg
namespace Go.Proofs
open Go.Shelf
def Tryz.lays160_ren : Go.Shelf.Ren := ⟨fun | 160 => 65 | 232 => 72 | 231 => 71 | 227 => 73 | 234 => 75 | 233 => 74 | 236 => 77 | 235 => 76 | 228 => 84 | 271 => 87 | 151 => 86 | 197 => 85 | 120 => 98 | 152 => 97 | 260 => 96 | 137 => 110 | 119 => 111 | 224 => 112 | 225 => 113 | 217 => 119 | 266 => 121 | n => n, fun | 9 => 9 | 4 => 4 | 3 => 3 | 5 => 5 | 117 => 91 | 116 => 90 | 0 => 0 | 124 => 94 | 21 => 21 | 105 => 103 | 46 => 116 | 119 => 128 | 139 => 131 | 138 => 130 | n => n, fun | 3 => 1 | 4 => 2 | n => n⟩
theorem Tryz.lays160 : Go.Proofs.Lays.n160 Tryz.prog Tryz.lays160_ren := {
  mixed := by kernel_rfl
  f119 := Tryz.func111.trans (congrArg some (by kernel_rfl))
  f120 := Tryz.func98.trans (congrArg some (by kernel_rfl))
  f137 := Tryz.func110.trans (congrArg some (by kernel_rfl))
  f151 := Tryz.func86.trans (congrArg some (by kernel_rfl))
  f152 := Tryz.func97.trans (congrArg some (by kernel_rfl))
  f160 := Tryz.func65.trans (congrArg some (by kernel_rfl))
  f197 := Tryz.func85.trans (congrArg some (by kernel_rfl))
  f217 := Tryz.func119.trans (congrArg some (by kernel_rfl))
  f224 := Tryz.func112.trans (congrArg some (by kernel_rfl))
  f225 := Tryz.func113.trans (congrArg some (by kernel_rfl))
  f227 := Tryz.func73.trans (congrArg some (by kernel_rfl))
  f228 := Tryz.func84.trans (congrArg some (by kernel_rfl))
  f231 := Tryz.func71.trans (congrArg some (by kernel_rfl))
  f232 := Tryz.func72.trans (congrArg some (by kernel_rfl))
  f233 := Tryz.func74.trans (congrArg some (by kernel_rfl))
  f234 := Tryz.func75.trans (congrArg some (by kernel_rfl))
  f235 := Tryz.func76.trans (congrArg some (by kernel_rfl))
  f236 := Tryz.func77.trans (congrArg some (by kernel_rfl))
  f260 := Tryz.func96.trans (congrArg some (by kernel_rfl))
  f266 := Tryz.func121.trans (congrArg some (by kernel_rfl))
  f271 := Tryz.func87.trans (congrArg some (by kernel_rfl))
  t0 := Tryz.underlying0
  a0 := Tryz.isAgg0
  z0 := Tryz.sizeOf0
  v0 := Tryz.zeroValue0
  t3 := Tryz.underlying3
  a3 := Tryz.isAgg3
  z3 := Tryz.sizeOf3
  v3 := Tryz.zeroValue3
  t4 := Tryz.underlying4
  a4 := Tryz.isAgg4
  z4 := Tryz.sizeOf4
  v4 := Tryz.zeroValue4
  t5 := Tryz.underlying5
  a5 := Tryz.isAgg5
  z5 := Tryz.sizeOf5
  v5 := Tryz.zeroValue5
  t9 := Tryz.underlying9
  a9 := Tryz.isAgg9
  z9 := Tryz.sizeOf9
  v9 := Tryz.zeroValue9
  t21 := Tryz.underlying21
  a21 := Tryz.isAgg21
  z21 := Tryz.sizeOf21
  v21 := Tryz.zeroValue21
  t46 := Tryz.underlying116
  a46 := Tryz.isAgg116
  z46 := Tryz.sizeOf116
  v46 := Tryz.zeroValue116
  t105 := Tryz.underlying103
  a105 := Tryz.isAgg103
  z105 := Tryz.sizeOf103
  v105 := Tryz.zeroValue103
  t116 := Tryz.underlying90
  a116 := Tryz.isAgg90
  z116 := Tryz.sizeOf90
  t117 := Tryz.underlying91
  a117 := Tryz.isAgg91
  z117 := Tryz.sizeOf91
  v117 := Tryz.zeroValue91
  t119 := Tryz.underlying128
  a119 := Tryz.isAgg128
  z119 := Tryz.sizeOf128
  t124 := Tryz.underlying94
  a124 := Tryz.isAgg94
  z124 := Tryz.sizeOf94
  v124 := Tryz.zeroValue94
  t138 := Tryz.underlying130
  a138 := Tryz.isAgg130
  z138 := Tryz.sizeOf130
  v138 := Tryz.zeroValue130
  t139 := Tryz.underlying131
  a139 := Tryz.isAgg131
  z139 := Tryz.sizeOf131
  v139 := Tryz.zeroValue131
  g3 := by kernel_rfl
  g4 := by kernel_rfl }
def Tryz.laysM171_ren : Go.Shelf.Ren := ⟨fun | 171 => 116 | 243 => 120 | 246 => 82 | 283 => 92 | 284 => 93 | 285 => 94 | 286 => 95 | 129 => 106 | 317 => 105 | 318 => 107 | 319 => 108 | 320 => 109 | 337 => 117 | 338 => 118 | n => n, fun | 3 => 3 | 9 => 9 | 2 => 2 | 4 => 4 | 171 => 108 | 0 => 0 | 53 => 70 | 37 => 82 | 5 => 5 | 173 => 111 | 212 => 123 | 51 => 124 | 20 => 20 | 213 => 125 | 46 => 116 | 232 => 143 | 233 => 144 | n => n, fun | 17 => 0 | 18 => 6 | 19 => 7 | n => n⟩
theorem Tryz.laysM171 : Go.Proofs.LaysM.n171 Tryz.prog Tryz.laysM171_ren := {
  mixed := by kernel_rfl
  f129 := Tryz.func106.trans (congrArg some (by kernel_rfl))
  f171 := Tryz.func116.trans (congrArg some (by kernel_rfl))
  f243 := Tryz.func120.trans (congrArg some (by kernel_rfl))
  f246 := Tryz.func82.trans (congrArg some (by kernel_rfl))
  f283 := Tryz.func92.trans (congrArg some (by kernel_rfl))
  f284 := Tryz.func93.trans (congrArg some (by kernel_rfl))
  f285 := Tryz.func94.trans (congrArg some (by kernel_rfl))
  f286 := Tryz.func95.trans (congrArg some (by kernel_rfl))
  f317 := Tryz.func105.trans (congrArg some (by kernel_rfl))
  f318 := Tryz.func107.trans (congrArg some (by kernel_rfl))
  f319 := Tryz.func108.trans (congrArg some (by kernel_rfl))
  f320 := Tryz.func109.trans (congrArg some (by kernel_rfl))
  f337 := Tryz.func117.trans (congrArg some (by kernel_rfl))
  f338 := Tryz.func118.trans (congrArg some (by kernel_rfl))
  t0 := Tryz.underlying0
  a0 := Tryz.isAgg0
  z0 := Tryz.sizeOf0
  v0 := Tryz.zeroValue0
  t2 := Tryz.underlying2
  a2 := Tryz.isAgg2
  z2 := Tryz.sizeOf2
  v2 := Tryz.zeroValue2
  t3 := Tryz.underlying3
  a3 := Tryz.isAgg3
  z3 := Tryz.sizeOf3
  v3 := Tryz.zeroValue3
  t4 := Tryz.underlying4
  a4 := Tryz.isAgg4
  z4 := Tryz.sizeOf4
  v4 := Tryz.zeroValue4
  t5 := Tryz.underlying5
  a5 := Tryz.isAgg5
  z5 := Tryz.sizeOf5
  v5 := Tryz.zeroValue5
  t9 := Tryz.underlying9
  a9 := Tryz.isAgg9
  z9 := Tryz.sizeOf9
  v9 := Tryz.zeroValue9
  t20 := Tryz.underlying20
  a20 := Tryz.isAgg20
  z20 := Tryz.sizeOf20
  v20 := Tryz.zeroValue20
  t37 := Tryz.underlying82
  a37 := Tryz.isAgg82
  z37 := Tryz.sizeOf82
  v37 := Tryz.zeroValue82
  t46 := Tryz.underlying116
  a46 := Tryz.isAgg116
  z46 := Tryz.sizeOf116
  v46 := Tryz.zeroValue116
  t51 := Tryz.underlying124
  a51 := Tryz.isAgg124
  z51 := Tryz.sizeOf124
  v51 := Tryz.zeroValue124
  t53 := Tryz.underlying70
  a53 := Tryz.isAgg70
  z53 := Tryz.sizeOf70
  v53 := Tryz.zeroValue70
  t171 := Tryz.underlying108
  a171 := Tryz.isAgg108
  z171 := Tryz.sizeOf108
  v171 := Tryz.zeroValue108
  t173 := Tryz.underlying111
  a173 := Tryz.isAgg111
  z173 := Tryz.sizeOf111
  v173 := Tryz.zeroValue111
  t212 := Tryz.underlying123
  a212 := Tryz.isAgg123
  z212 := Tryz.sizeOf123
  v212 := Tryz.zeroValue123
  t213 := Tryz.underlying125
  a213 := Tryz.isAgg125
  z213 := Tryz.sizeOf125
  t232 := Tryz.underlying143
  a232 := Tryz.isAgg143
  z232 := Tryz.sizeOf143
  v232 := Tryz.zeroValue143
  t233 := Tryz.underlying144
  a233 := Tryz.isAgg144
  z233 := Tryz.sizeOf144
  v233 := Tryz.zeroValue144
  g17 := by kernel_rfl
  g18 := by kernel_rfl
  g19 := by kernel_rfl
  i0 := by kernel_rfl
  i2 := by kernel_rfl
  i3 := by kernel_rfl
  i4 := by kernel_rfl
  i5 := by kernel_rfl
  i9 := by kernel_rfl
  i20 := by kernel_rfl
  i37 := by kernel_rfl
  i46 := by kernel_rfl
  i51 := by kernel_rfl
  i53 := by kernel_rfl
  i171 := by kernel_rfl
  i173 := by kernel_rfl
  i212 := by kernel_rfl
  i232 := by kernel_rfl
  i233 := by kernel_rfl
  m17 := by kernel_rfl
  m18 := by kernel_rfl
  m19 := by kernel_rfl }
open Go.RowKit Go.Sort Go.Lib in
/-- strconv.Itoa: "Itoa is equivalent to FormatInt(int64(i), 10).": i's DECIMAL NUMERAL ('Lib.itoa': a '-' where i is negative, then the digits), FOR EVERY int. The world behind the call: the world before it, new blocks behind the heap (the library's 'var a [24]byte'), draws. (LAID: no walk: one application.) -/
theorem Tryz.strconv_Itoa (n : Int) (h0 : -9223372036854775808 ≤ n) (h1 : n ≤ 9223372036854775807) (w : World) (htab : Lib.TabIs Tryz.prog w "internal/strconv.uint64pow10" .u64 Lib.pow10Tab) :
    Calls Tryz.prog 116 #[.int .i64 n] w fun e w' => e = .returned (.string ⟨(Lib.itoa n).toArray⟩) ∧ ∃ k os, w' = grow (w.drewN k) os := Any.strconv_Itoa Tryz.laysM171 n h0 h1 w htab
def Tryz.laysM173_ren : Go.Shelf.Ren := ⟨fun | 173 => 69 | 246 => 82 | 283 => 92 | 284 => 93 | 285 => 94 | 286 => 95 | 129 => 106 | 317 => 105 | 318 => 107 | 319 => 108 | 320 => 109 | 337 => 117 | 338 => 118 | n => n, fun | 2 => 2 | 3 => 3 | 9 => 9 | 4 => 4 | 171 => 108 | 0 => 0 | 53 => 70 | 37 => 82 | 5 => 5 | 173 => 111 | 212 => 123 | 51 => 124 | 20 => 20 | 213 => 125 | 46 => 116 | 232 => 143 | 233 => 144 | n => n, fun | 17 => 0 | 18 => 6 | 19 => 7 | n => n⟩
theorem Tryz.laysM173 : Go.Proofs.LaysM.n173 Tryz.prog Tryz.laysM173_ren := {
  mixed := by kernel_rfl
  f129 := Tryz.func106.trans (congrArg some (by kernel_rfl))
  f173 := Tryz.func69.trans (congrArg some (by kernel_rfl))
  f246 := Tryz.func82.trans (congrArg some (by kernel_rfl))
  f283 := Tryz.func92.trans (congrArg some (by kernel_rfl))
  f284 := Tryz.func93.trans (congrArg some (by kernel_rfl))
  f285 := Tryz.func94.trans (congrArg some (by kernel_rfl))
  f286 := Tryz.func95.trans (congrArg some (by kernel_rfl))
  f317 := Tryz.func105.trans (congrArg some (by kernel_rfl))
  f318 := Tryz.func107.trans (congrArg some (by kernel_rfl))
  f319 := Tryz.func108.trans (congrArg some (by kernel_rfl))
  f320 := Tryz.func109.trans (congrArg some (by kernel_rfl))
  f337 := Tryz.func117.trans (congrArg some (by kernel_rfl))
  f338 := Tryz.func118.trans (congrArg some (by kernel_rfl))
  t0 := Tryz.underlying0
  a0 := Tryz.isAgg0
  z0 := Tryz.sizeOf0
  v0 := Tryz.zeroValue0
  t2 := Tryz.underlying2
  a2 := Tryz.isAgg2
  z2 := Tryz.sizeOf2
  v2 := Tryz.zeroValue2
  t3 := Tryz.underlying3
  a3 := Tryz.isAgg3
  z3 := Tryz.sizeOf3
  v3 := Tryz.zeroValue3
  t4 := Tryz.underlying4
  a4 := Tryz.isAgg4
  z4 := Tryz.sizeOf4
  v4 := Tryz.zeroValue4
  t5 := Tryz.underlying5
  a5 := Tryz.isAgg5
  z5 := Tryz.sizeOf5
  v5 := Tryz.zeroValue5
  t9 := Tryz.underlying9
  a9 := Tryz.isAgg9
  z9 := Tryz.sizeOf9
  v9 := Tryz.zeroValue9
  t20 := Tryz.underlying20
  a20 := Tryz.isAgg20
  z20 := Tryz.sizeOf20
  v20 := Tryz.zeroValue20
  t37 := Tryz.underlying82
  a37 := Tryz.isAgg82
  z37 := Tryz.sizeOf82
  v37 := Tryz.zeroValue82
  t46 := Tryz.underlying116
  a46 := Tryz.isAgg116
  z46 := Tryz.sizeOf116
  v46 := Tryz.zeroValue116
  t51 := Tryz.underlying124
  a51 := Tryz.isAgg124
  z51 := Tryz.sizeOf124
  v51 := Tryz.zeroValue124
  t53 := Tryz.underlying70
  a53 := Tryz.isAgg70
  z53 := Tryz.sizeOf70
  v53 := Tryz.zeroValue70
  t171 := Tryz.underlying108
  a171 := Tryz.isAgg108
  z171 := Tryz.sizeOf108
  v171 := Tryz.zeroValue108
  t173 := Tryz.underlying111
  a173 := Tryz.isAgg111
  z173 := Tryz.sizeOf111
  v173 := Tryz.zeroValue111
  t212 := Tryz.underlying123
  a212 := Tryz.isAgg123
  z212 := Tryz.sizeOf123
  v212 := Tryz.zeroValue123
  t213 := Tryz.underlying125
  a213 := Tryz.isAgg125
  z213 := Tryz.sizeOf125
  t232 := Tryz.underlying143
  a232 := Tryz.isAgg143
  z232 := Tryz.sizeOf143
  v232 := Tryz.zeroValue143
  t233 := Tryz.underlying144
  a233 := Tryz.isAgg144
  z233 := Tryz.sizeOf144
  v233 := Tryz.zeroValue144
  g17 := by kernel_rfl
  g18 := by kernel_rfl
  g19 := by kernel_rfl
  i0 := by kernel_rfl
  i2 := by kernel_rfl
  i3 := by kernel_rfl
  i4 := by kernel_rfl
  i5 := by kernel_rfl
  i9 := by kernel_rfl
  i20 := by kernel_rfl
  i37 := by kernel_rfl
  i46 := by kernel_rfl
  i51 := by kernel_rfl
  i53 := by kernel_rfl
  i171 := by kernel_rfl
  i173 := by kernel_rfl
  i212 := by kernel_rfl
  i232 := by kernel_rfl
  i233 := by kernel_rfl
  m17 := by kernel_rfl
  m18 := by kernel_rfl
  m19 := by kernel_rfl }
open Go.RowKit Go.Sort Go.Lib in
/-- strconv.FormatInt: "FormatInt returns the string representation of i in the given base": AT BASE 10: i's decimal numeral, for every int64. (LAID: no walk: one application.) -/
theorem Tryz.strconv_FormatInt_10 (n : Int) (h0 : -9223372036854775808 ≤ n) (h1 : n ≤ 9223372036854775807) (w : World) (htab : Lib.TabIs Tryz.prog w "internal/strconv.uint64pow10" .u64 Lib.pow10Tab) :
    Calls Tryz.prog 69 #[.int .i64 n, .int .i64 10] w fun e w' => e = .returned (.string ⟨(Lib.itoa n).toArray⟩) ∧ ∃ k os, w' = grow (w.drewN k) os := Any.strconv_FormatInt_10 Tryz.laysM173 n h0 h1 w htab
def Tryz.laysPu14_ren : Go.Shelf.Ren := ⟨fun | 14 => 81 | 16 => 90 | 17 => 91 | 19 => 99 | 20 => 100 | 21 => 101 | 22 => 102 | 23 => 103 | 24 => 104 | 25 => 114 | 27 => 116 | 26 => 115 | 28 => 120 | 29 => 82 | 30 => 92 | 31 => 93 | 32 => 94 | 33 => 95 | 35 => 106 | 34 => 105 | 36 => 107 | 37 => 108 | 38 => 109 | 39 => 117 | 40 => 118 | n => n, fun | 9 => 9 | 3 => 3 | 22 => 70 | 24 => 98 | 25 => 99 | 4 => 4 | 34 => 114 | 5 => 5 | 36 => 116 | 37 => 82 | 0 => 0 | 39 => 118 | 21 => 21 | 44 => 136 | 47 => 139 | 50 => 142 | 48 => 140 | 2 => 2 | 52 => 108 | 55 => 111 | 59 => 123 | 60 => 124 | 20 => 20 | 61 => 125 | 65 => 143 | 66 => 144 | 67 => 145 | n => n, fun | 0 => 3 | 1 => 4 | 2 => 0 | 3 => 6 | 4 => 7 | n => n⟩
theorem Tryz.laysPu14 : Go.Proofs.LaysPu.n14 Tryz.prog Tryz.laysPu14_ren := {
  mixed := by kernel_rfl
  f14 := Tryz.func81.trans (congrArg some (by kernel_rfl))
  f16 := Tryz.func90.trans (congrArg some (by kernel_rfl))
  f17 := Tryz.func91.trans (congrArg some (by kernel_rfl))
  f19 := Tryz.func99.trans (congrArg some (by kernel_rfl))
  f20 := Tryz.func100.trans (congrArg some (by kernel_rfl))
  f21 := Tryz.func101.trans (congrArg some (by kernel_rfl))
  f22 := Tryz.func102.trans (congrArg some (by kernel_rfl))
  f23 := Tryz.func103.trans (congrArg some (by kernel_rfl))
  f24 := Tryz.func104.trans (congrArg some (by kernel_rfl))
  f25 := Tryz.func114.trans (congrArg some (by kernel_rfl))
  f26 := Tryz.func115.trans (congrArg some (by kernel_rfl))
  f27 := Tryz.func116.trans (congrArg some (by kernel_rfl))
  f28 := Tryz.func120.trans (congrArg some (by kernel_rfl))
  f29 := Tryz.func82.trans (congrArg some (by kernel_rfl))
  f30 := Tryz.func92.trans (congrArg some (by kernel_rfl))
  f31 := Tryz.func93.trans (congrArg some (by kernel_rfl))
  f32 := Tryz.func94.trans (congrArg some (by kernel_rfl))
  f33 := Tryz.func95.trans (congrArg some (by kernel_rfl))
  f34 := Tryz.func105.trans (congrArg some (by kernel_rfl))
  f35 := Tryz.func106.trans (congrArg some (by kernel_rfl))
  f36 := Tryz.func107.trans (congrArg some (by kernel_rfl))
  f37 := Tryz.func108.trans (congrArg some (by kernel_rfl))
  f38 := Tryz.func109.trans (congrArg some (by kernel_rfl))
  f39 := Tryz.func117.trans (congrArg some (by kernel_rfl))
  f40 := Tryz.func118.trans (congrArg some (by kernel_rfl))
  t0 := Tryz.underlying0
  a0 := Tryz.isAgg0
  z0 := Tryz.sizeOf0
  v0 := Tryz.zeroValue0
  i0 := by kernel_rfl
  t2 := Tryz.underlying2
  a2 := Tryz.isAgg2
  z2 := Tryz.sizeOf2
  v2 := Tryz.zeroValue2
  i2 := by kernel_rfl
  t3 := Tryz.underlying3
  a3 := Tryz.isAgg3
  z3 := Tryz.sizeOf3
  v3 := Tryz.zeroValue3
  i3 := by kernel_rfl
  t4 := Tryz.underlying4
  a4 := Tryz.isAgg4
  z4 := Tryz.sizeOf4
  v4 := Tryz.zeroValue4
  i4 := by kernel_rfl
  t5 := Tryz.underlying5
  a5 := Tryz.isAgg5
  z5 := Tryz.sizeOf5
  v5 := Tryz.zeroValue5
  i5 := by kernel_rfl
  t9 := Tryz.underlying9
  a9 := Tryz.isAgg9
  z9 := Tryz.sizeOf9
  v9 := Tryz.zeroValue9
  i9 := by kernel_rfl
  t20 := Tryz.underlying20
  a20 := Tryz.isAgg20
  z20 := Tryz.sizeOf20
  v20 := Tryz.zeroValue20
  i20 := by kernel_rfl
  t21 := Tryz.underlying21
  a21 := Tryz.isAgg21
  z21 := Tryz.sizeOf21
  v21 := Tryz.zeroValue21
  i21 := by kernel_rfl
  t22 := Tryz.underlying70
  a22 := Tryz.isAgg70
  z22 := Tryz.sizeOf70
  v22 := Tryz.zeroValue70
  i22 := by kernel_rfl
  t24 := Tryz.underlying98
  a24 := Tryz.isAgg98
  z24 := Tryz.sizeOf98
  v24 := Tryz.zeroValue98
  i24 := by kernel_rfl
  t25 := Tryz.underlying99
  a25 := Tryz.isAgg99
  z25 := Tryz.sizeOf99
  v25 := Tryz.zeroValue99
  i25 := by kernel_rfl
  t34 := Tryz.underlying114
  a34 := Tryz.isAgg114
  z34 := Tryz.sizeOf114
  v34 := Tryz.zeroValue114
  i34 := by kernel_rfl
  c34 := by kernel_rfl
  t36 := Tryz.underlying116
  a36 := Tryz.isAgg116
  z36 := Tryz.sizeOf116
  v36 := Tryz.zeroValue116
  i36 := by kernel_rfl
  t37 := Tryz.underlying82
  a37 := Tryz.isAgg82
  z37 := Tryz.sizeOf82
  v37 := Tryz.zeroValue82
  i37 := by kernel_rfl
  t39 := Tryz.underlying118
  a39 := Tryz.isAgg118
  z39 := Tryz.sizeOf118
  v39 := Tryz.zeroValue118
  i39 := by kernel_rfl
  t44 := Tryz.underlying136
  a44 := Tryz.isAgg136
  z44 := Tryz.sizeOf136
  v44 := Tryz.zeroValue136
  i44 := by kernel_rfl
  t47 := Tryz.underlying139
  a47 := Tryz.isAgg139
  z47 := Tryz.sizeOf139
  v47 := Tryz.zeroValue139
  i47 := by kernel_rfl
  t48 := Tryz.underlying140
  a48 := Tryz.isAgg140
  z48 := Tryz.sizeOf140
  v48 := Tryz.zeroValue140
  i48 := by kernel_rfl
  t50 := Tryz.underlying142
  a50 := Tryz.isAgg142
  z50 := Tryz.sizeOf142
  v50 := Tryz.zeroValue142
  i50 := by kernel_rfl
  t52 := Tryz.underlying108
  a52 := Tryz.isAgg108
  z52 := Tryz.sizeOf108
  v52 := Tryz.zeroValue108
  i52 := by kernel_rfl
  t55 := Tryz.underlying111
  a55 := Tryz.isAgg111
  z55 := Tryz.sizeOf111
  v55 := Tryz.zeroValue111
  i55 := by kernel_rfl
  t59 := Tryz.underlying123
  a59 := Tryz.isAgg123
  z59 := Tryz.sizeOf123
  v59 := Tryz.zeroValue123
  i59 := by kernel_rfl
  t60 := Tryz.underlying124
  a60 := Tryz.isAgg124
  z60 := Tryz.sizeOf124
  v60 := Tryz.zeroValue124
  i60 := by kernel_rfl
  t61 := Tryz.underlying125
  a61 := Tryz.isAgg125
  z61 := Tryz.sizeOf125
  t65 := Tryz.underlying143
  a65 := Tryz.isAgg143
  z65 := Tryz.sizeOf143
  v65 := Tryz.zeroValue143
  i65 := by kernel_rfl
  t66 := Tryz.underlying144
  a66 := Tryz.isAgg144
  z66 := Tryz.sizeOf144
  v66 := Tryz.zeroValue144
  i66 := by kernel_rfl
  t67 := Tryz.underlying145
  a67 := Tryz.isAgg145
  z67 := Tryz.sizeOf145
  v67 := Tryz.zeroValue145
  i67 := by kernel_rfl
  g0 := by kernel_rfl
  m0 := by kernel_rfl
  g1 := by kernel_rfl
  m1 := by kernel_rfl
  g2 := by kernel_rfl
  m2 := by kernel_rfl
  g3 := by kernel_rfl
  m3 := by kernel_rfl
  g4 := by kernel_rfl
  m4 := by kernel_rfl }
open Go.RowKit in
/-- strconv.ParseUint(s, 10, 64), AT EVERY STRING THAT SPELLS A uint64 ('Lib.parseUintB 64 s.data.toList = .ok u'): u, AND NO ERROR. (LAID: no walk: one application.) -/
theorem Tryz.strconv_ParseUint_10_at64_ok (s : ByteArray) (hmax : s.size ≤ 9223372036854775806) (u : Nat) (h : Lib.parseUintB 64 s.data.toList = .ok u) (w : World) :
    Calls Tryz.prog 81 #[.string s, .int .i64 10, .int .i64 64] w fun e w' => e = .returned (.tuple #[.int .u64 u, .nilIface]) ∧ (w' = w ∨ w' = Lib.bytesWorld w 5 s) := Any.strconv_ParseUint_10_at64_ok Tryz.laysPu14 s hmax u h w
open Go.RowKit in
open Go.RowKit in
theorem Tryz.strconv_ParseUint_10_at64_range_var (s : ByteArray) (hlim : s.size ≤ 281474976710656) (h : Lib.parseUintB 64 s.data.toList = .range) (tp : TypeId) (p : Value) (w : World) (hvar : w.var? Tryz.prog "strconv.ErrRange" = some #[.iface tp p]) :
    Calls Tryz.prog 81 #[.string s, .int .i64 10, .int .i64 64] w fun e w' => ∃ N, e = .returned (.tuple #[.int .u64 18446744073709551615, .iface 118 (.pointer (some ⟨N, 0, none⟩))]) ∧ w.heap.size ≤ N ∧ w'.heap[N]? = some (.cells #[.string ⟨#[80, 97, 114, 115, 101, 85, 105, 110, 116]⟩, .string s, .iface tp p] 136 (0, 0)) ∧ Below w.heap.size w w' := Any.strconv_ParseUint_10_at64_range_var Tryz.laysPu14 s hlim h tp p w hvar
end Go.Proofs
