/-
  DERIVED: THE SHELF's CONTRACTS AT THIS DUMP, IN PLAIN WORDS (tools/lay-plain.mjs out of 'TrydShelf.lean', which tools/lay-shelf.mjs wrote): THE SAME DECLARATIONS UNDER THE SAME NAMES: 'import', 'namespace', 'open', 'def', 'theorem' AND NOTHING ELSE: no command of the shelf's: FOR A HAND-IN. Each laying: the table of numbers ('.._ren') and one theorem, a field a fact of the dump's own or the kernel's comparison; each contract: ONE APPLICATION.
-/
import Derived.Shelf.Strings.Builder1
import Derived.Shelf.Strings.Builder2
import Derived.Shelf.Small.Strs
import Derived.Shelf.Small.Wraps
import Derived.Shelf.Strings.BuilderF
import Derived.Shelf.Strings.BuilderK
import Derived.Shelf.Strings.Builder2Cap
import Derived.Shelf.Strconv.Atoi
import Derived.Shelf.Strconv.Itoa0
import Derived.Shelf.Strconv.Itoa1
import Derived.Shelf.LaysM
import Derived.Shelf.Strconv.Itoa2
import Derived.Shelf.Strconv.Itoa3
import Derived.Shelf.Strconv.AtoiErrFast
import Derived.Shelf.Strconv.ParseIntEmpty
import Derived.Shelf.Strconv.AtoiFail
import Derived.Shelf.Strconv.Clone
import Derived.Shelf.Strconv.SyntaxError
import Derived.Shelf.LaysC
import Derived.Shelf.Strconv.ToError
import Derived.Shelf.Strconv.AtoiErr
import Derived.Shelf.Strconv.Lower
import Derived.Shelf.Strconv.ParseUint10
import Derived.Shelf.Strconv.ParseUint10Empty
import Derived.Shelf.Strconv.ParseUint10Any
import Derived.Shelf.Strconv.ParseInt10
import Derived.Shelf.Strconv.AtoiLong
import Derived.Shelf.Strconv.AtoiInnerAll
import Derived.Shelf.Strconv.RangeError
import Derived.Shelf.Strconv.ToErrorRange
import Derived.Shelf.Strconv.AtoiAll
import Derived.Shelf.Strconv.ErrVarAll
import Derived.Shelf.Strconv.ParseUintEmpty
import Derived.Shelf.Strconv.ParseUint10b64
import Derived.Shelf.Strconv.ParseUint10b32
import Derived.Shelf.Strconv.ParseUint10b16
import Derived.Shelf.Strconv.ParseUint10b8
import Derived.Shelf.Strconv.ParseUint10At
import Derived.Ground.MpProg
import Derived.Shelf.Pu.ParseUintPublic10
import Derived.Shelf.Pu.ErrVarParseUint
import Derived.Shelf.Strings.Search1
import Derived.Shelf.Strings.Prefix
import Derived.Shelf.Strings.Fields
import Derived.Shelf.Strings.SplitShaped
import Derived.Shelf.Unicode.Latin
import Derived.Shelf.Bits.Mul64
import Derived.Shelf.Strings.Repeat
import Derived.Shelf.Unicode.Is16White
import Derived.Shelf.Unicode.IsSpaceAny
import Derived.Shelf.Unicode.Is16WhiteD
import Derived.Shelf.Unicode.IsSpaceAnyD
import Derived.Shelf.Strings.FieldsAny
import Derived.Shelf.Strings.FieldsFuncAny
import Derived.Shelf.Unicode.Is16Any
import Derived.Shelf.Unicode.Is32Any
import Derived.Shelf.Unicode.ExclAny
import Derived.Shelf.Strings.BuilderCap
import Derived.Shelf.Slices.Turned
import Derived.Test.YtcnnpedmccjdkaaDoorProg
namespace Go.Proofs
open Go.Shelf
def Tryd.lays137_ren : Go.Shelf.Ren := ⟨fun | 137 => 35 | 217 => 49 | 266 => 70 | n => n, fun | 9 => 9 | 5 => 5 | 3 => 3 | n => n, fun | n => n⟩
theorem Tryd.lays137 : Go.Proofs.Lays.n137 Tryd.prog Tryd.lays137_ren := {
  mixed := by kernel_rfl
  f137 := Tryd.func35.trans (congrArg some (by kernel_rfl))
  f217 := Tryd.func49.trans (congrArg some (by kernel_rfl))
  f266 := Tryd.func70.trans (congrArg some (by kernel_rfl))
  t3 := Tryd.underlying3
  a3 := Tryd.isAgg3
  z3 := Tryd.sizeOf3
  v3 := Tryd.zeroValue3
  t5 := Tryd.underlying5
  a5 := Tryd.isAgg5
  z5 := Tryd.sizeOf5
  v5 := Tryd.zeroValue5
  t9 := Tryd.underlying9
  a9 := Tryd.isAgg9
  z9 := Tryd.sizeOf9
  v9 := Tryd.zeroValue9 }
open Go.RowKit in
/-- strings.IndexByte: "IndexByte returns the index of the first instance of c in s, or -1 if c is not present in s.": IT RETURNS 'Lib.indexByte s c'; the world is as it was. (LAID: no walk: one application.) -/
theorem Tryd.strings_IndexByte (s : ByteArray) (c : Int) (w : World) :
    Calls Tryd.prog 35 #[.string s, .int .u8 c] w fun e w' => e = .returned (.int .i64 (Lib.indexByte s.data.toList c.toNat.toUInt8)) ∧ w' = w := Any.strings_IndexByte Tryd.lays137 s c w
def Tryd.lays103_ren : Go.Shelf.Ren := ⟨fun | 103 => 23 | 210 => 34 | 206 => 13 | n => n, fun | 9 => 9 | 4 => 4 | 24 => 63 | 3 => 3 | n => n, fun | n => n⟩
theorem Tryd.lays103 : Go.Proofs.Lays.n103 Tryd.prog Tryd.lays103_ren := {
  mixed := by kernel_rfl
  f103 := Tryd.func23.trans (congrArg some (by kernel_rfl))
  f206 := Tryd.func13.trans (congrArg some (by kernel_rfl))
  f210 := Tryd.func34.trans (congrArg some (by kernel_rfl))
  t3 := Tryd.underlying3
  a3 := Tryd.isAgg3
  z3 := Tryd.sizeOf3
  v3 := Tryd.zeroValue3
  t4 := Tryd.underlying4
  a4 := Tryd.isAgg4
  z4 := Tryd.sizeOf4
  v4 := Tryd.zeroValue4
  t9 := Tryd.underlying9
  a9 := Tryd.isAgg9
  z9 := Tryd.sizeOf9
  v9 := Tryd.zeroValue9
  t24 := Tryd.underlying63
  a24 := Tryd.isAgg63
  z24 := Tryd.sizeOf63
  v24 := Tryd.zeroValue63 }
open Go.RowKit in
/-- strings.CutPrefix: "CutPrefix returns s without the provided leading prefix string and reports whether it found the prefix. If s doesn't start with prefix, CutPrefix returns s, false. If prefix is the empty string, CutPrefix returns s, true.": IT RETURNS '(Lib.trimPrefix s p, Lib.hasPrefix s p)'; the world is as it was. (LAID: no walk: one application.) -/
theorem Tryd.strings_CutPrefix (s p : ByteArray) (w : World) :
    Calls Tryd.prog 23 #[.string s, .string p] w fun e w' => e = .returned (.tuple #[.string ⟨(Lib.trimPrefix s.data.toList p.data.toList).toArray⟩, .bool (Lib.hasPrefix s.data.toList p.data.toList)]) ∧ w' = w := Any.strings_CutPrefix Tryd.lays103 s p w
def Tryd.lays121_ren : Go.Shelf.Ren := ⟨fun | 121 => 29 | 214 => 42 | n => n, fun | 4 => 4 | 9 => 9 | n => n, fun | n => n⟩
theorem Tryd.lays121 : Go.Proofs.Lays.n121 Tryd.prog Tryd.lays121_ren := {
  mixed := by kernel_rfl
  f121 := Tryd.func29.trans (congrArg some (by kernel_rfl))
  f214 := Tryd.func42.trans (congrArg some (by kernel_rfl))
  t4 := Tryd.underlying4
  a4 := Tryd.isAgg4
  z4 := Tryd.sizeOf4
  v4 := Tryd.zeroValue4
  t9 := Tryd.underlying9
  a9 := Tryd.isAgg9
  z9 := Tryd.sizeOf9
  v9 := Tryd.zeroValue9 }
open Go.RowKit in
/-- strconv.FormatBool: "FormatBool returns "true" or "false" according to the value of b.": IT RETURNS 'Lib.formatBool b'; the world is as it was. (LAID: no walk: one application.) -/
theorem Tryd.strconv_FormatBool (b : Bool) (w : World) :
    Calls Tryd.prog 29 #[.bool b] w fun e w' => e = .returned (.string ⟨(Lib.formatBool b).toArray⟩) ∧ w' = w := Any.strconv_FormatBool Tryd.lays121 b w
def Tryd.laysM171_ren : Go.Shelf.Ren := ⟨fun | 171 => 28 | 243 => 41 | 246 => 61 | 283 => 75 | 284 => 76 | 285 => 77 | 286 => 78 | 129 => 89 | 317 => 88 | 318 => 90 | 319 => 91 | 320 => 92 | 337 => 96 | 338 => 97 | n => n, fun | 3 => 3 | 9 => 9 | 2 => 2 | 4 => 4 | 171 => 129 | 0 => 0 | 53 => 30 | 37 => 87 | 5 => 5 | 173 => 132 | 212 => 145 | 51 => 60 | 20 => 20 | 213 => 146 | 46 => 89 | 232 => 154 | 233 => 155 | n => n, fun | 17 => 6 | 18 => 7 | 19 => 8 | n => n⟩
theorem Tryd.laysM171 : Go.Proofs.LaysM.n171 Tryd.prog Tryd.laysM171_ren := {
  mixed := by kernel_rfl
  f129 := Tryd.func89.trans (congrArg some (by kernel_rfl))
  f171 := Tryd.func28.trans (congrArg some (by kernel_rfl))
  f243 := Tryd.func41.trans (congrArg some (by kernel_rfl))
  f246 := Tryd.func61.trans (congrArg some (by kernel_rfl))
  f283 := Tryd.func75.trans (congrArg some (by kernel_rfl))
  f284 := Tryd.func76.trans (congrArg some (by kernel_rfl))
  f285 := Tryd.func77.trans (congrArg some (by kernel_rfl))
  f286 := Tryd.func78.trans (congrArg some (by kernel_rfl))
  f317 := Tryd.func88.trans (congrArg some (by kernel_rfl))
  f318 := Tryd.func90.trans (congrArg some (by kernel_rfl))
  f319 := Tryd.func91.trans (congrArg some (by kernel_rfl))
  f320 := Tryd.func92.trans (congrArg some (by kernel_rfl))
  f337 := Tryd.func96.trans (congrArg some (by kernel_rfl))
  f338 := Tryd.func97.trans (congrArg some (by kernel_rfl))
  t0 := Tryd.underlying0
  a0 := Tryd.isAgg0
  z0 := Tryd.sizeOf0
  v0 := Tryd.zeroValue0
  t2 := Tryd.underlying2
  a2 := Tryd.isAgg2
  z2 := Tryd.sizeOf2
  v2 := Tryd.zeroValue2
  t3 := Tryd.underlying3
  a3 := Tryd.isAgg3
  z3 := Tryd.sizeOf3
  v3 := Tryd.zeroValue3
  t4 := Tryd.underlying4
  a4 := Tryd.isAgg4
  z4 := Tryd.sizeOf4
  v4 := Tryd.zeroValue4
  t5 := Tryd.underlying5
  a5 := Tryd.isAgg5
  z5 := Tryd.sizeOf5
  v5 := Tryd.zeroValue5
  t9 := Tryd.underlying9
  a9 := Tryd.isAgg9
  z9 := Tryd.sizeOf9
  v9 := Tryd.zeroValue9
  t20 := Tryd.underlying20
  a20 := Tryd.isAgg20
  z20 := Tryd.sizeOf20
  v20 := Tryd.zeroValue20
  t37 := Tryd.underlying87
  a37 := Tryd.isAgg87
  z37 := Tryd.sizeOf87
  v37 := Tryd.zeroValue87
  t46 := Tryd.underlying89
  a46 := Tryd.isAgg89
  z46 := Tryd.sizeOf89
  v46 := Tryd.zeroValue89
  t51 := Tryd.underlying60
  a51 := Tryd.isAgg60
  z51 := Tryd.sizeOf60
  v51 := Tryd.zeroValue60
  t53 := Tryd.underlying30
  a53 := Tryd.isAgg30
  z53 := Tryd.sizeOf30
  v53 := Tryd.zeroValue30
  t171 := Tryd.underlying129
  a171 := Tryd.isAgg129
  z171 := Tryd.sizeOf129
  v171 := Tryd.zeroValue129
  t173 := Tryd.underlying132
  a173 := Tryd.isAgg132
  z173 := Tryd.sizeOf132
  v173 := Tryd.zeroValue132
  t212 := Tryd.underlying145
  a212 := Tryd.isAgg145
  z212 := Tryd.sizeOf145
  v212 := Tryd.zeroValue145
  t213 := Tryd.underlying146
  a213 := Tryd.isAgg146
  z213 := Tryd.sizeOf146
  t232 := Tryd.underlying154
  a232 := Tryd.isAgg154
  z232 := Tryd.sizeOf154
  v232 := Tryd.zeroValue154
  t233 := Tryd.underlying155
  a233 := Tryd.isAgg155
  z233 := Tryd.sizeOf155
  v233 := Tryd.zeroValue155
  g17 := by kernel_rfl
  g18 := by kernel_rfl
  g19 := by kernel_rfl
  i0 := by kernel_rfl
  i2 := by kernel_rfl
  i3 := by kernel_rfl
  i4 := by kernel_rfl
  i5 := by kernel_rfl
  i9 := by kernel_rfl
  i20 := by kernel_rfl
  i37 := by kernel_rfl
  i46 := by kernel_rfl
  i51 := by kernel_rfl
  i53 := by kernel_rfl
  i171 := by kernel_rfl
  i173 := by kernel_rfl
  i212 := by kernel_rfl
  i232 := by kernel_rfl
  i233 := by kernel_rfl
  m17 := by kernel_rfl
  m18 := by kernel_rfl
  m19 := by kernel_rfl }
open Go.RowKit Go.Sort Go.Lib in
/-- strconv.Itoa: "Itoa is equivalent to FormatInt(int64(i), 10).": i's DECIMAL NUMERAL ('Lib.itoa': a '-' where i is negative, then the digits), FOR EVERY int. The world behind the call: the world before it, new blocks behind the heap (the library's 'var a [24]byte'), draws. (LAID: no walk: one application.) -/
theorem Tryd.strconv_Itoa (n : Int) (h0 : -9223372036854775808 ≤ n) (h1 : n ≤ 9223372036854775807) (w : World) (htab : Lib.TabIs Tryd.prog w "internal/strconv.uint64pow10" .u64 Lib.pow10Tab) :
    Calls Tryd.prog 28 #[.int .i64 n] w fun e w' => e = .returned (.string ⟨(Lib.itoa n).toArray⟩) ∧ ∃ k os, w' = grow (w.drewN k) os := Any.strconv_Itoa Tryd.laysM171 n h0 h1 w htab
def Tryd.laysC245_ren : Go.Shelf.Ren := ⟨fun | 245 => 39 | 279 => 57 | 280 => 58 | 281 => 59 | 282 => 60 | 316 => 73 | 171 => 28 | 205 => 74 | 243 => 41 | 246 => 61 | 283 => 75 | 284 => 76 | 285 => 77 | 286 => 78 | 129 => 89 | 317 => 88 | 318 => 90 | 319 => 91 | 320 => 92 | 337 => 96 | 338 => 97 | n => n, fun | 9 => 9 | 3 => 3 | 75 => 69 | 167 => 110 | 4 => 4 | 168 => 113 | 210 => 127 | 37 => 87 | 0 => 0 | 127 => 138 | 145 => 142 | 143 => 140 | 2 => 2 | 171 => 129 | 53 => 30 | 5 => 5 | 173 => 132 | 212 => 145 | 51 => 60 | 20 => 20 | 213 => 146 | 46 => 89 | 232 => 154 | 233 => 155 | 80 => 125 | n => n, fun | 15 => 3 | 16 => 4 | 17 => 6 | 18 => 7 | 19 => 8 | n => n⟩
theorem Tryd.laysC245 : Go.Proofs.LaysC.n245 Tryd.prog Tryd.laysC245_ren := {
  mixed := by kernel_rfl
  f129 := Tryd.func89.trans (congrArg some (by kernel_rfl))
  f171 := Tryd.func28.trans (congrArg some (by kernel_rfl))
  f205 := Tryd.func74.trans (congrArg some (by kernel_rfl))
  f243 := Tryd.func41.trans (congrArg some (by kernel_rfl))
  f245 := Tryd.func39.trans (congrArg some (by kernel_rfl))
  f246 := Tryd.func61.trans (congrArg some (by kernel_rfl))
  f279 := Tryd.func57.trans (congrArg some (by kernel_rfl))
  f280 := Tryd.func58.trans (congrArg some (by kernel_rfl))
  f281 := Tryd.func59.trans (congrArg some (by kernel_rfl))
  f282 := Tryd.func60.trans (congrArg some (by kernel_rfl))
  f283 := Tryd.func75.trans (congrArg some (by kernel_rfl))
  f284 := Tryd.func76.trans (congrArg some (by kernel_rfl))
  f285 := Tryd.func77.trans (congrArg some (by kernel_rfl))
  f286 := Tryd.func78.trans (congrArg some (by kernel_rfl))
  f316 := Tryd.func73.trans (congrArg some (by kernel_rfl))
  f317 := Tryd.func88.trans (congrArg some (by kernel_rfl))
  f318 := Tryd.func90.trans (congrArg some (by kernel_rfl))
  f319 := Tryd.func91.trans (congrArg some (by kernel_rfl))
  f320 := Tryd.func92.trans (congrArg some (by kernel_rfl))
  f337 := Tryd.func96.trans (congrArg some (by kernel_rfl))
  f338 := Tryd.func97.trans (congrArg some (by kernel_rfl))
  t0 := Tryd.underlying0
  a0 := Tryd.isAgg0
  z0 := Tryd.sizeOf0
  v0 := Tryd.zeroValue0
  t2 := Tryd.underlying2
  a2 := Tryd.isAgg2
  z2 := Tryd.sizeOf2
  v2 := Tryd.zeroValue2
  t3 := Tryd.underlying3
  a3 := Tryd.isAgg3
  z3 := Tryd.sizeOf3
  v3 := Tryd.zeroValue3
  t4 := Tryd.underlying4
  a4 := Tryd.isAgg4
  z4 := Tryd.sizeOf4
  v4 := Tryd.zeroValue4
  t5 := Tryd.underlying5
  a5 := Tryd.isAgg5
  z5 := Tryd.sizeOf5
  v5 := Tryd.zeroValue5
  t9 := Tryd.underlying9
  a9 := Tryd.isAgg9
  z9 := Tryd.sizeOf9
  v9 := Tryd.zeroValue9
  t20 := Tryd.underlying20
  a20 := Tryd.isAgg20
  z20 := Tryd.sizeOf20
  v20 := Tryd.zeroValue20
  t37 := Tryd.underlying87
  a37 := Tryd.isAgg87
  z37 := Tryd.sizeOf87
  v37 := Tryd.zeroValue87
  t46 := Tryd.underlying89
  a46 := Tryd.isAgg89
  z46 := Tryd.sizeOf89
  v46 := Tryd.zeroValue89
  t51 := Tryd.underlying60
  a51 := Tryd.isAgg60
  z51 := Tryd.sizeOf60
  v51 := Tryd.zeroValue60
  t53 := Tryd.underlying30
  a53 := Tryd.isAgg30
  z53 := Tryd.sizeOf30
  v53 := Tryd.zeroValue30
  t75 := Tryd.underlying69
  a75 := Tryd.isAgg69
  z75 := Tryd.sizeOf69
  v75 := Tryd.zeroValue69
  t127 := Tryd.underlying138
  a127 := Tryd.isAgg138
  z127 := Tryd.sizeOf138
  v127 := Tryd.zeroValue138
  t143 := Tryd.underlying140
  a143 := Tryd.isAgg140
  z143 := Tryd.sizeOf140
  v143 := Tryd.zeroValue140
  t145 := Tryd.underlying142
  a145 := Tryd.isAgg142
  z145 := Tryd.sizeOf142
  v145 := Tryd.zeroValue142
  t167 := Tryd.underlying110
  a167 := Tryd.isAgg110
  z167 := Tryd.sizeOf110
  v167 := Tryd.zeroValue110
  t168 := Tryd.underlying113
  a168 := Tryd.isAgg113
  z168 := Tryd.sizeOf113
  v168 := Tryd.zeroValue113
  t171 := Tryd.underlying129
  a171 := Tryd.isAgg129
  z171 := Tryd.sizeOf129
  v171 := Tryd.zeroValue129
  t173 := Tryd.underlying132
  a173 := Tryd.isAgg132
  z173 := Tryd.sizeOf132
  v173 := Tryd.zeroValue132
  t210 := Tryd.underlying127
  a210 := Tryd.isAgg127
  z210 := Tryd.sizeOf127
  v210 := Tryd.zeroValue127
  t212 := Tryd.underlying145
  a212 := Tryd.isAgg145
  z212 := Tryd.sizeOf145
  v212 := Tryd.zeroValue145
  t213 := Tryd.underlying146
  a213 := Tryd.isAgg146
  z213 := Tryd.sizeOf146
  t232 := Tryd.underlying154
  a232 := Tryd.isAgg154
  z232 := Tryd.sizeOf154
  v232 := Tryd.zeroValue154
  t233 := Tryd.underlying155
  a233 := Tryd.isAgg155
  z233 := Tryd.sizeOf155
  v233 := Tryd.zeroValue155
  g15 := by kernel_rfl
  g16 := by kernel_rfl
  g17 := by kernel_rfl
  g18 := by kernel_rfl
  g19 := by kernel_rfl
  t80 := Tryd.underlying125
  a80 := Tryd.isAgg125
  z80 := Tryd.sizeOf125
  v80 := Tryd.zeroValue125
  i0 := by kernel_rfl
  i2 := by kernel_rfl
  i3 := by kernel_rfl
  i4 := by kernel_rfl
  i5 := by kernel_rfl
  i9 := by kernel_rfl
  i20 := by kernel_rfl
  i37 := by kernel_rfl
  i46 := by kernel_rfl
  i51 := by kernel_rfl
  i53 := by kernel_rfl
  i75 := by kernel_rfl
  i80 := by kernel_rfl
  i127 := by kernel_rfl
  i143 := by kernel_rfl
  i145 := by kernel_rfl
  i167 := by kernel_rfl
  i168 := by kernel_rfl
  i171 := by kernel_rfl
  i173 := by kernel_rfl
  i210 := by kernel_rfl
  i212 := by kernel_rfl
  i232 := by kernel_rfl
  i233 := by kernel_rfl
  m15 := by kernel_rfl
  m16 := by kernel_rfl
  m17 := by kernel_rfl
  m18 := by kernel_rfl
  m19 := by kernel_rfl
  c0 := by kernel_rfl
  c2 := by kernel_rfl
  c3 := by kernel_rfl
  c4 := by kernel_rfl
  c5 := by kernel_rfl
  c9 := by kernel_rfl
  c20 := by kernel_rfl
  c37 := by kernel_rfl
  c46 := by kernel_rfl
  c51 := by kernel_rfl
  c53 := by kernel_rfl
  c75 := by kernel_rfl
  c80 := by kernel_rfl
  c127 := by kernel_rfl
  c143 := by kernel_rfl
  c145 := by kernel_rfl
  c167 := by kernel_rfl
  c168 := by kernel_rfl
  c171 := by kernel_rfl
  c173 := by kernel_rfl
  c210 := by kernel_rfl
  c212 := by kernel_rfl
  c213 := by kernel_rfl
  c232 := by kernel_rfl
  c233 := by kernel_rfl }
open Go.RowKit in
/-- strconv.toError, at the inner package's ErrSyntax: 'syntaxError(fn, s)' as an error: A *NumError IN A NEW BLOCK. (LAID: no walk: one application.) -/
theorem Tryd.strconv_toError_syntax (fn s : ByteArray) (base bits : Int) (ev : Value) (w : World) (hlim : s.size ≤ 281474976710656) (hv : w.cell? ⟨3, 0, none⟩ = some ev) (hev : ev = .nilIface ∨ ∃ te pe, ev = .iface te pe) :
    Calls Tryd.prog 39 #[.string fn, .string s, .int .i64 base, .int .i64 bits, .iface 110 (.int .i64 2)] w fun e w' => ∃ N, e = .returned (.iface 113 (.pointer (some ⟨N, 0, none⟩))) ∧ w.heap.size ≤ N ∧ w'.heap[N]? = some (.cells #[.string fn, .string s, ev] 127 (0, 0)) ∧ Below w.heap.size w w' := Any.strconv_toError_syntax Tryd.laysC245 fn s base bits ev w hlim hv hev
def Tryd.laysC172_ren : Go.Shelf.Ren := ⟨fun | 172 => 26 | 244 => 38 | 245 => 39 | 247 => 56 | 279 => 57 | 280 => 58 | 281 => 59 | 282 => 60 | 287 => 71 | 316 => 73 | 171 => 28 | 205 => 74 | 321 => 85 | 322 => 86 | 243 => 41 | 246 => 61 | 283 => 75 | 284 => 76 | 285 => 77 | 286 => 78 | 129 => 89 | 317 => 88 | 318 => 90 | 319 => 91 | 320 => 92 | 337 => 96 | 338 => 97 | n => n, fun | 9 => 9 | 3 => 3 | 75 => 69 | 76 => 70 | 4 => 4 | 5 => 5 | 167 => 110 | 37 => 87 | 0 => 0 | 85 => 111 | 2 => 2 | 168 => 113 | 53 => 30 | 175 => 106 | 46 => 89 | 210 => 127 | 127 => 138 | 145 => 142 | 143 => 140 | 21 => 21 | 171 => 129 | 173 => 132 | 212 => 145 | 51 => 60 | 20 => 20 | 213 => 146 | 232 => 154 | 233 => 155 | 80 => 125 | n => n, fun | 15 => 3 | 16 => 4 | 17 => 6 | 18 => 7 | 19 => 8 | n => n⟩
theorem Tryd.laysC172 : Go.Proofs.LaysC.n172 Tryd.prog Tryd.laysC172_ren := {
  mixed := by kernel_rfl
  f129 := Tryd.func89.trans (congrArg some (by kernel_rfl))
  f171 := Tryd.func28.trans (congrArg some (by kernel_rfl))
  f172 := Tryd.func26.trans (congrArg some (by kernel_rfl))
  f205 := Tryd.func74.trans (congrArg some (by kernel_rfl))
  f243 := Tryd.func41.trans (congrArg some (by kernel_rfl))
  f244 := Tryd.func38.trans (congrArg some (by kernel_rfl))
  f245 := Tryd.func39.trans (congrArg some (by kernel_rfl))
  f246 := Tryd.func61.trans (congrArg some (by kernel_rfl))
  f247 := Tryd.func56.trans (congrArg some (by kernel_rfl))
  f279 := Tryd.func57.trans (congrArg some (by kernel_rfl))
  f280 := Tryd.func58.trans (congrArg some (by kernel_rfl))
  f281 := Tryd.func59.trans (congrArg some (by kernel_rfl))
  f282 := Tryd.func60.trans (congrArg some (by kernel_rfl))
  f283 := Tryd.func75.trans (congrArg some (by kernel_rfl))
  f284 := Tryd.func76.trans (congrArg some (by kernel_rfl))
  f285 := Tryd.func77.trans (congrArg some (by kernel_rfl))
  f286 := Tryd.func78.trans (congrArg some (by kernel_rfl))
  f287 := Tryd.func71.trans (congrArg some (by kernel_rfl))
  f316 := Tryd.func73.trans (congrArg some (by kernel_rfl))
  f317 := Tryd.func88.trans (congrArg some (by kernel_rfl))
  f318 := Tryd.func90.trans (congrArg some (by kernel_rfl))
  f319 := Tryd.func91.trans (congrArg some (by kernel_rfl))
  f320 := Tryd.func92.trans (congrArg some (by kernel_rfl))
  f321 := Tryd.func85.trans (congrArg some (by kernel_rfl))
  f322 := Tryd.func86.trans (congrArg some (by kernel_rfl))
  f337 := Tryd.func96.trans (congrArg some (by kernel_rfl))
  f338 := Tryd.func97.trans (congrArg some (by kernel_rfl))
  t0 := Tryd.underlying0
  a0 := Tryd.isAgg0
  z0 := Tryd.sizeOf0
  v0 := Tryd.zeroValue0
  t2 := Tryd.underlying2
  a2 := Tryd.isAgg2
  z2 := Tryd.sizeOf2
  v2 := Tryd.zeroValue2
  t3 := Tryd.underlying3
  a3 := Tryd.isAgg3
  z3 := Tryd.sizeOf3
  v3 := Tryd.zeroValue3
  t4 := Tryd.underlying4
  a4 := Tryd.isAgg4
  z4 := Tryd.sizeOf4
  v4 := Tryd.zeroValue4
  t5 := Tryd.underlying5
  a5 := Tryd.isAgg5
  z5 := Tryd.sizeOf5
  v5 := Tryd.zeroValue5
  t9 := Tryd.underlying9
  a9 := Tryd.isAgg9
  z9 := Tryd.sizeOf9
  v9 := Tryd.zeroValue9
  t20 := Tryd.underlying20
  a20 := Tryd.isAgg20
  z20 := Tryd.sizeOf20
  v20 := Tryd.zeroValue20
  t21 := Tryd.underlying21
  a21 := Tryd.isAgg21
  z21 := Tryd.sizeOf21
  v21 := Tryd.zeroValue21
  t37 := Tryd.underlying87
  a37 := Tryd.isAgg87
  z37 := Tryd.sizeOf87
  v37 := Tryd.zeroValue87
  t46 := Tryd.underlying89
  a46 := Tryd.isAgg89
  z46 := Tryd.sizeOf89
  v46 := Tryd.zeroValue89
  t51 := Tryd.underlying60
  a51 := Tryd.isAgg60
  z51 := Tryd.sizeOf60
  v51 := Tryd.zeroValue60
  t53 := Tryd.underlying30
  a53 := Tryd.isAgg30
  z53 := Tryd.sizeOf30
  v53 := Tryd.zeroValue30
  t75 := Tryd.underlying69
  a75 := Tryd.isAgg69
  z75 := Tryd.sizeOf69
  v75 := Tryd.zeroValue69
  t76 := Tryd.underlying70
  a76 := Tryd.isAgg70
  z76 := Tryd.sizeOf70
  v76 := Tryd.zeroValue70
  t85 := Tryd.underlying111
  a85 := Tryd.isAgg111
  z85 := Tryd.sizeOf111
  v85 := Tryd.zeroValue111
  t127 := Tryd.underlying138
  a127 := Tryd.isAgg138
  z127 := Tryd.sizeOf138
  v127 := Tryd.zeroValue138
  t143 := Tryd.underlying140
  a143 := Tryd.isAgg140
  z143 := Tryd.sizeOf140
  v143 := Tryd.zeroValue140
  t145 := Tryd.underlying142
  a145 := Tryd.isAgg142
  z145 := Tryd.sizeOf142
  v145 := Tryd.zeroValue142
  t167 := Tryd.underlying110
  a167 := Tryd.isAgg110
  z167 := Tryd.sizeOf110
  v167 := Tryd.zeroValue110
  t168 := Tryd.underlying113
  a168 := Tryd.isAgg113
  z168 := Tryd.sizeOf113
  v168 := Tryd.zeroValue113
  t171 := Tryd.underlying129
  a171 := Tryd.isAgg129
  z171 := Tryd.sizeOf129
  v171 := Tryd.zeroValue129
  t173 := Tryd.underlying132
  a173 := Tryd.isAgg132
  z173 := Tryd.sizeOf132
  v173 := Tryd.zeroValue132
  t175 := Tryd.underlying106
  a175 := Tryd.isAgg106
  z175 := Tryd.sizeOf106
  v175 := Tryd.zeroValue106
  t210 := Tryd.underlying127
  a210 := Tryd.isAgg127
  z210 := Tryd.sizeOf127
  v210 := Tryd.zeroValue127
  t212 := Tryd.underlying145
  a212 := Tryd.isAgg145
  z212 := Tryd.sizeOf145
  v212 := Tryd.zeroValue145
  t213 := Tryd.underlying146
  a213 := Tryd.isAgg146
  z213 := Tryd.sizeOf146
  t232 := Tryd.underlying154
  a232 := Tryd.isAgg154
  z232 := Tryd.sizeOf154
  v232 := Tryd.zeroValue154
  t233 := Tryd.underlying155
  a233 := Tryd.isAgg155
  z233 := Tryd.sizeOf155
  v233 := Tryd.zeroValue155
  g15 := by kernel_rfl
  g16 := by kernel_rfl
  g17 := by kernel_rfl
  g18 := by kernel_rfl
  g19 := by kernel_rfl
  t80 := Tryd.underlying125
  a80 := Tryd.isAgg125
  z80 := Tryd.sizeOf125
  v80 := Tryd.zeroValue125
  i0 := by kernel_rfl
  i2 := by kernel_rfl
  i3 := by kernel_rfl
  i4 := by kernel_rfl
  i5 := by kernel_rfl
  i9 := by kernel_rfl
  i20 := by kernel_rfl
  i21 := by kernel_rfl
  i37 := by kernel_rfl
  i46 := by kernel_rfl
  i51 := by kernel_rfl
  i53 := by kernel_rfl
  i75 := by kernel_rfl
  i76 := by kernel_rfl
  i80 := by kernel_rfl
  i85 := by kernel_rfl
  i127 := by kernel_rfl
  i143 := by kernel_rfl
  i145 := by kernel_rfl
  i167 := by kernel_rfl
  i168 := by kernel_rfl
  i171 := by kernel_rfl
  i173 := by kernel_rfl
  i175 := by kernel_rfl
  i210 := by kernel_rfl
  i212 := by kernel_rfl
  i232 := by kernel_rfl
  i233 := by kernel_rfl
  m15 := by kernel_rfl
  m16 := by kernel_rfl
  m17 := by kernel_rfl
  m18 := by kernel_rfl
  m19 := by kernel_rfl
  c0 := by kernel_rfl
  c2 := by kernel_rfl
  c3 := by kernel_rfl
  c4 := by kernel_rfl
  c5 := by kernel_rfl
  c9 := by kernel_rfl
  c20 := by kernel_rfl
  c21 := by kernel_rfl
  c37 := by kernel_rfl
  c46 := by kernel_rfl
  c51 := by kernel_rfl
  c53 := by kernel_rfl
  c75 := by kernel_rfl
  c76 := by kernel_rfl
  c80 := by kernel_rfl
  c85 := by kernel_rfl
  c127 := by kernel_rfl
  c143 := by kernel_rfl
  c145 := by kernel_rfl
  c167 := by kernel_rfl
  c168 := by kernel_rfl
  c171 := by kernel_rfl
  c173 := by kernel_rfl
  c175 := by kernel_rfl
  c210 := by kernel_rfl
  c212 := by kernel_rfl
  c213 := by kernel_rfl
  c232 := by kernel_rfl
  c233 := by kernel_rfl }
def Tryd.lays321_ren : Go.Shelf.Ren := ⟨fun | 321 => 85 | n => n, fun | 5 => 5 | n => n, fun | n => n⟩
theorem Tryd.lays321 : Go.Proofs.Lays.n321 Tryd.prog Tryd.lays321_ren := {
  mixed := by kernel_rfl
  f321 := Tryd.func85.trans (congrArg some (by kernel_rfl))
  t5 := Tryd.underlying5
  a5 := Tryd.isAgg5
  z5 := Tryd.sizeOf5
  v5 := Tryd.zeroValue5 }
open Go.RowKit in
/-- internal/strconv.lower: 'c | ('x' - 'X')': the bit 32 set. The world is as it was. (LAID: no walk: one application.) -/
theorem Tryd.internal_strconv_lower (c : Int) (w : World) :
    Calls Tryd.prog 85 #[.int .u8 c] w fun e w' => e = .returned (.int .u8 (bits .or .u8 c 32)) ∧ w' = w := Any.internal_strconv_lower Tryd.lays321 c w
open Go.RowKit in
/-- strconv.toError, at the inner package's ErrRange: 'rangeError(fn, s)' as an error: A *NumError IN A NEW BLOCK. (LAID: no walk: one application.) -/
theorem Tryd.strconv_toError_range (fn s : ByteArray) (base bits : Int) (ev : Value) (w : World) (hlim : s.size ≤ 281474976710656) (hv : w.cell? ⟨4, 0, none⟩ = some ev) (hev : ev = .nilIface ∨ ∃ te pe, ev = .iface te pe) :
    Calls Tryd.prog 39 #[.string fn, .string s, .int .i64 base, .int .i64 bits, .iface 110 (.int .i64 1)] w fun e w' => ∃ N, e = .returned (.iface 113 (.pointer (some ⟨N, 0, none⟩))) ∧ w.heap.size ≤ N ∧ w'.heap[N]? = some (.cells #[.string fn, .string s, ev] 127 (0, 0)) ∧ Below w.heap.size w w' := Any.strconv_toError_range Tryd.laysC245 fn s base bits ev w hlim hv hev
open Go.RowKit in
/-- strconv.Atoi, AT EVERY STRING THAT SPELLS AN int ('Lib.atoiAll .. = .ok v'; of whatever length: leading zeros count): v, AND NO ERROR. The world: as it was, or with the one new row that '[]byte(..)' lays. (LAID: no walk: one application.) -/
theorem Tryd.strconv_Atoi_ok (s : ByteArray) (hmax : s.size ≤ 9223372036854775806) (v : Int) (h : Lib.atoiAll s.data.toList = .ok v) (w : World) :
    Calls Tryd.prog 26 #[.string s] w fun e w' => e = .returned (.tuple #[.int .i64 v, .nilIface]) ∧ (w' = w ∨ ∃ t, w' = Lib.bytesWorld w 5 t) := Any.strconv_Atoi_ok Tryd.laysC172 s hmax v h w
open Go.RowKit in
theorem Tryd.strconv_Atoi_syntax_var (s : ByteArray) (hlim : s.size ≤ 281474976710656) (h : Lib.atoiAll s.data.toList = (Lib.atoiAll [])) (tp : TypeId) (p : Value) (w : World) (hvar : w.var? Tryd.prog "strconv.ErrSyntax" = some #[.iface tp p]) :
    Calls Tryd.prog 26 #[.string s] w fun e w' => ∃ N, e = .returned (.tuple #[.int .i64 0, .iface 113 (.pointer (some ⟨N, 0, none⟩))]) ∧ w.heap.size ≤ N ∧ w'.heap[N]? = some (.cells #[.string ⟨#[65, 116, 111, 105]⟩, .string s, .iface tp p] 127 (0, 0)) ∧ Below w.heap.size w w' := Any.strconv_Atoi_syntax_var Tryd.laysC172 s hlim h tp p w hvar
open Go.RowKit in
theorem Tryd.strconv_Atoi_range_var (s : ByteArray) (hlim : s.size ≤ 281474976710656) (h : Lib.atoiAll s.data.toList = .range) (tp : TypeId) (p : Value) (w : World) (hvar : w.var? Tryd.prog "strconv.ErrRange" = some #[.iface tp p]) :
    Calls Tryd.prog 26 #[.string s] w fun e w' => ∃ N, e = .returned (.tuple #[.int .i64 (Lib.atoiSat s.data.toList), .iface 113 (.pointer (some ⟨N, 0, none⟩))]) ∧ w.heap.size ≤ N ∧ w'.heap[N]? = some (.cells #[.string ⟨#[65, 116, 111, 105]⟩, .string s, .iface tp p] 127 (0, 0)) ∧ Below w.heap.size w w' := Any.strconv_Atoi_range_var Tryd.laysC172 s hlim h tp p w hvar
def Tryd.lays99_ren : Go.Shelf.Ren := ⟨fun | 99 => 8 | 206 => 13 | n => n, fun | 9 => 9 | 4 => 4 | 3 => 3 | n => n, fun | n => n⟩
theorem Tryd.lays99 : Go.Proofs.Lays.n99 Tryd.prog Tryd.lays99_ren := {
  mixed := by kernel_rfl
  f99 := Tryd.func8.trans (congrArg some (by kernel_rfl))
  f206 := Tryd.func13.trans (congrArg some (by kernel_rfl))
  t3 := Tryd.underlying3
  a3 := Tryd.isAgg3
  z3 := Tryd.sizeOf3
  v3 := Tryd.zeroValue3
  t4 := Tryd.underlying4
  a4 := Tryd.isAgg4
  z4 := Tryd.sizeOf4
  v4 := Tryd.zeroValue4
  t9 := Tryd.underlying9
  a9 := Tryd.isAgg9
  z9 := Tryd.sizeOf9
  v9 := Tryd.zeroValue9 }
open Go.RowKit Go.Lib in
/-- strings.HasPrefix: "HasPrefix reports whether the string s begins with prefix.": IT RETURNS 'Lib.hasPrefix s prefix'; the world is as it was. (LAID: no walk: one application.) -/
theorem Tryd.strings_HasPrefix (s p : ByteArray) (w : World) :
    Calls Tryd.prog 8 #[.string s, .string p] w fun e w' => e = .returned (.bool (Lib.hasPrefix s.data.toList p.data.toList)) ∧ w' = w := Any.strings_HasPrefix Tryd.lays99 s p w
def Tryd.lays102_ren : Go.Shelf.Ren := ⟨fun | 102 => 53 | 209 => 72 | 207 => 87 | n => n, fun | 9 => 9 | 4 => 4 | 3 => 3 | n => n, fun | n => n⟩
theorem Tryd.lays102 : Go.Proofs.Lays.n102 Tryd.prog Tryd.lays102_ren := {
  mixed := by kernel_rfl
  f102 := Tryd.func53.trans (congrArg some (by kernel_rfl))
  f207 := Tryd.func87.trans (congrArg some (by kernel_rfl))
  f209 := Tryd.func72.trans (congrArg some (by kernel_rfl))
  t3 := Tryd.underlying3
  a3 := Tryd.isAgg3
  z3 := Tryd.sizeOf3
  v3 := Tryd.zeroValue3
  t4 := Tryd.underlying4
  a4 := Tryd.isAgg4
  z4 := Tryd.sizeOf4
  v4 := Tryd.zeroValue4
  t9 := Tryd.underlying9
  a9 := Tryd.isAgg9
  z9 := Tryd.sizeOf9
  v9 := Tryd.zeroValue9 }
open Go.RowKit Go.Lib in
/-- strings.TrimSuffix: "TrimSuffix returns s without the provided trailing suffix string. If s doesn't end with suffix, s is returned unchanged.": IT RETURNS 'Lib.trimSuffix s suffix'; the world is as it was. (LAID: no walk: one application.) -/
theorem Tryd.strings_TrimSuffix (s p : ByteArray) (w : World) (hs : s.size ≤ 9223372036854775807) :
    Calls Tryd.prog 53 #[.string s, .string p] w fun e w' => e = .returned (.string ⟨(Lib.trimSuffix s.data.toList p.data.toList).toArray⟩) ∧ w' = w := Any.strings_TrimSuffix Tryd.lays102 s p w hs
def Tryd.lays157_ren : Go.Shelf.Ren := ⟨fun | 157 => 15 | 229 => 18 | 199 => 19 | 261 => 22 | 311 => 32 | 312 => 33 | n => n, fun | 9 => 9 | 31 => 47 | 3 => 3 | 5 => 5 | 4 => 4 | 119 => 52 | 0 => 0 | 40 => 54 | 152 => 57 | 21 => 21 | 154 => 59 | 51 => 60 | 141 => 62 | 196 => 79 | 193 => 76 | 198 => 82 | 49 => 80 | 194 => 77 | 201 => 85 | 226 => 102 | 46 => 89 | 227 => 103 | n => n, fun | 0 => 0 | 6 => 1 | n => n⟩
theorem Tryd.lays157 : Go.Proofs.Lays.n157 Tryd.prog Tryd.lays157_ren := {
  mixed := by kernel_rfl
  f157 := Tryd.func15.trans (congrArg some (by kernel_rfl))
  f199 := Tryd.func19.trans (congrArg some (by kernel_rfl))
  f229 := Tryd.func18.trans (congrArg some (by kernel_rfl))
  f261 := Tryd.func22.trans (congrArg some (by kernel_rfl))
  f311 := Tryd.func32.trans (congrArg some (by kernel_rfl))
  f312 := Tryd.func33.trans (congrArg some (by kernel_rfl))
  t0 := Tryd.underlying0
  a0 := Tryd.isAgg0
  z0 := Tryd.sizeOf0
  v0 := Tryd.zeroValue0
  t3 := Tryd.underlying3
  a3 := Tryd.isAgg3
  z3 := Tryd.sizeOf3
  v3 := Tryd.zeroValue3
  t4 := Tryd.underlying4
  a4 := Tryd.isAgg4
  z4 := Tryd.sizeOf4
  v4 := Tryd.zeroValue4
  t5 := Tryd.underlying5
  a5 := Tryd.isAgg5
  z5 := Tryd.sizeOf5
  v5 := Tryd.zeroValue5
  t9 := Tryd.underlying9
  a9 := Tryd.isAgg9
  z9 := Tryd.sizeOf9
  v9 := Tryd.zeroValue9
  t21 := Tryd.underlying21
  a21 := Tryd.isAgg21
  z21 := Tryd.sizeOf21
  v21 := Tryd.zeroValue21
  t31 := Tryd.underlying47
  a31 := Tryd.isAgg47
  z31 := Tryd.sizeOf47
  v31 := Tryd.zeroValue47
  t40 := Tryd.underlying54
  a40 := Tryd.isAgg54
  z40 := Tryd.sizeOf54
  v40 := Tryd.zeroValue54
  t46 := Tryd.underlying89
  a46 := Tryd.isAgg89
  z46 := Tryd.sizeOf89
  v46 := Tryd.zeroValue89
  t49 := Tryd.underlying80
  a49 := Tryd.isAgg80
  z49 := Tryd.sizeOf80
  v49 := Tryd.zeroValue80
  t51 := Tryd.underlying60
  a51 := Tryd.isAgg60
  z51 := Tryd.sizeOf60
  v51 := Tryd.zeroValue60
  t119 := Tryd.underlying52
  a119 := Tryd.isAgg52
  z119 := Tryd.sizeOf52
  t141 := Tryd.underlying62
  a141 := Tryd.isAgg62
  z141 := Tryd.sizeOf62
  v141 := Tryd.zeroValue62
  t152 := Tryd.underlying57
  a152 := Tryd.isAgg57
  z152 := Tryd.sizeOf57
  v152 := Tryd.zeroValue57
  t154 := Tryd.underlying59
  a154 := Tryd.isAgg59
  z154 := Tryd.sizeOf59
  v154 := Tryd.zeroValue59
  t193 := Tryd.underlying76
  a193 := Tryd.isAgg76
  z193 := Tryd.sizeOf76
  v193 := Tryd.zeroValue76
  t194 := Tryd.underlying77
  a194 := Tryd.isAgg77
  z194 := Tryd.sizeOf77
  v194 := Tryd.zeroValue77
  t196 := Tryd.underlying79
  a196 := Tryd.isAgg79
  z196 := Tryd.sizeOf79
  v196 := Tryd.zeroValue79
  t198 := Tryd.underlying82
  a198 := Tryd.isAgg82
  z198 := Tryd.sizeOf82
  v198 := Tryd.zeroValue82
  t201 := Tryd.underlying85
  a201 := Tryd.isAgg85
  z201 := Tryd.sizeOf85
  v201 := Tryd.zeroValue85
  t226 := Tryd.underlying102
  a226 := Tryd.isAgg102
  z226 := Tryd.sizeOf102
  v226 := Tryd.zeroValue102
  t227 := Tryd.underlying103
  a227 := Tryd.isAgg103
  z227 := Tryd.sizeOf103
  v227 := Tryd.zeroValue103
  g0 := by kernel_rfl
  g6 := by kernel_rfl }
open Go.RowKit Go.Lib in
/-- strings.Fields, the table by 'Lib.TabIs' (as strings.TrimSpace's contract). 'hg': the table's number, by its name: at a dump 'by kernel_rfl'. (LAID: no walk: one application.) -/
theorem Tryd.strings_Fields (s : ByteArray) (w : World) (hs : s.size < 4294967281) (hascii : ∀ (j : Nat) b, s.data.toList[j]? = some b → b.toNat < 128) (htab : Lib.TabIs Tryd.prog w "strings.asciiSpace" .u8 Lib.asciiSpaceTab) :
    Calls Tryd.prog 15 #[.string s] w fun e w' =>
      e = .returned (.slice (some ⟨w.heap.size, 0, none⟩) (Lib.fields s.data.toList).length (Lib.fields s.data.toList).length) ∧ w' = w.alloc (.cells ((Lib.fields s.data.toList).map fun l => Value.string ⟨l.toArray⟩).toArray 9) := Any.strings_Fields Tryd.lays157 (by kernel_rfl) (by kernel_rfl) s w hs hascii htab
def Tryd.lays105_ren : Go.Shelf.Ren := ⟨fun | 105 => 48 | 212 => 65 | 99 => 8 | 165 => 66 | 166 => 67 | 170 => 68 | 169 => 69 | 263 => 81 | 264 => 82 | 206 => 13 | 240 => 83 | 241 => 84 | 276 => 94 | 277 => 95 | n => n, fun | 9 => 9 | 3 => 3 | 4 => 4 | 20 => 20 | 0 => 0 | 46 => 89 | 109 => 118 | 5 => 5 | 72 => 122 | 76 => 70 | 51 => 60 | 146 => 134 | 53 => 30 | 148 => 136 | 70 => 120 | 37 => 87 | 75 => 69 | 127 => 138 | 164 => 150 | 80 => 125 | n => n, fun | n => n⟩
theorem Tryd.lays105 : Go.Proofs.Lays.n105 Tryd.prog Tryd.lays105_ren := {
  mixed := by kernel_rfl
  f99 := Tryd.func8.trans (congrArg some (by kernel_rfl))
  f105 := Tryd.func48.trans (congrArg some (by kernel_rfl))
  f165 := Tryd.func66.trans (congrArg some (by kernel_rfl))
  f166 := Tryd.func67.trans (congrArg some (by kernel_rfl))
  f169 := Tryd.func69.trans (congrArg some (by kernel_rfl))
  f170 := Tryd.func68.trans (congrArg some (by kernel_rfl))
  f206 := Tryd.func13.trans (congrArg some (by kernel_rfl))
  f212 := Tryd.func65.trans (congrArg some (by kernel_rfl))
  f240 := Tryd.func83.trans (congrArg some (by kernel_rfl))
  f241 := Tryd.func84.trans (congrArg some (by kernel_rfl))
  f263 := Tryd.func81.trans (congrArg some (by kernel_rfl))
  f264 := Tryd.func82.trans (congrArg some (by kernel_rfl))
  f276 := Tryd.func94.trans (congrArg some (by kernel_rfl))
  f277 := Tryd.func95.trans (congrArg some (by kernel_rfl))
  t0 := Tryd.underlying0
  a0 := Tryd.isAgg0
  z0 := Tryd.sizeOf0
  v0 := Tryd.zeroValue0
  t3 := Tryd.underlying3
  a3 := Tryd.isAgg3
  z3 := Tryd.sizeOf3
  v3 := Tryd.zeroValue3
  t4 := Tryd.underlying4
  a4 := Tryd.isAgg4
  z4 := Tryd.sizeOf4
  v4 := Tryd.zeroValue4
  t5 := Tryd.underlying5
  a5 := Tryd.isAgg5
  z5 := Tryd.sizeOf5
  v5 := Tryd.zeroValue5
  t9 := Tryd.underlying9
  a9 := Tryd.isAgg9
  z9 := Tryd.sizeOf9
  v9 := Tryd.zeroValue9
  t20 := Tryd.underlying20
  a20 := Tryd.isAgg20
  z20 := Tryd.sizeOf20
  v20 := Tryd.zeroValue20
  t37 := Tryd.underlying87
  a37 := Tryd.isAgg87
  z37 := Tryd.sizeOf87
  v37 := Tryd.zeroValue87
  t46 := Tryd.underlying89
  a46 := Tryd.isAgg89
  z46 := Tryd.sizeOf89
  v46 := Tryd.zeroValue89
  t51 := Tryd.underlying60
  a51 := Tryd.isAgg60
  z51 := Tryd.sizeOf60
  v51 := Tryd.zeroValue60
  t53 := Tryd.underlying30
  a53 := Tryd.isAgg30
  z53 := Tryd.sizeOf30
  v53 := Tryd.zeroValue30
  t70 := Tryd.underlying120
  a70 := Tryd.isAgg120
  z70 := Tryd.sizeOf120
  v70 := Tryd.zeroValue120
  t72 := Tryd.underlying122
  a72 := Tryd.isAgg122
  z72 := Tryd.sizeOf122
  v72 := Tryd.zeroValue122
  t75 := Tryd.underlying69
  a75 := Tryd.isAgg69
  z75 := Tryd.sizeOf69
  v75 := Tryd.zeroValue69
  t76 := Tryd.underlying70
  a76 := Tryd.isAgg70
  z76 := Tryd.sizeOf70
  v76 := Tryd.zeroValue70
  t109 := Tryd.underlying118
  a109 := Tryd.isAgg118
  z109 := Tryd.sizeOf118
  v109 := Tryd.zeroValue118
  t127 := Tryd.underlying138
  a127 := Tryd.isAgg138
  z127 := Tryd.sizeOf138
  v127 := Tryd.zeroValue138
  t146 := Tryd.underlying134
  a146 := Tryd.isAgg134
  z146 := Tryd.sizeOf134
  v146 := Tryd.zeroValue134
  t148 := Tryd.underlying136
  a148 := Tryd.isAgg136
  z148 := Tryd.sizeOf136
  v148 := Tryd.zeroValue136
  t164 := Tryd.underlying150
  a164 := Tryd.isAgg150
  z164 := Tryd.sizeOf150
  v164 := Tryd.zeroValue150 }
theorem Tryd.Builder_Extra_105 : Builder.Extra Tryd.prog Tryd.lays105_ren := {
  sizeBuilder := by kernel_rfl
  liesBuilder := by kernel_rfl
  t5 := Tryd.underlying5
  a5 := Tryd.isAgg5
  z5 := Tryd.sizeOf5
  v5 := Tryd.zeroValue5
  infoByte := by kernel_rfl
  cellsByte := by kernel_rfl
  sizeByte := by kernel_rfl
  neB5 := by decide }
open Go.RowKit Go.Lib in
/-- **strings.Repeat: count ≥ 0, the result within one allocation: count copies of s.** (LAID: no walk: one application.) -/
theorem Tryd.strings_Repeat (s : ByteArray) (c : Nat) (w : World) (hc : c ≤ 9223372036854775807) (hlen : s.size * c ≤ 140737488355328) :
    Calls Tryd.prog 48 #[.string s, .int .i64 c] w fun e w' => e = .returned (.string ⟨(Lib.repeatL s.data.toList c).toArray⟩) ∧ Below w.heap.size w w' := Any.strings_Repeat Tryd.lays105 Tryd.Builder_Extra_105 s c w hc hlen
def Tryd.lays110_ren : Go.Shelf.Ren := ⟨fun | 110 => 14 | 109 => 17 | n => n, fun | 31 => 47 | 9 => 9 | 4 => 4 | 3 => 3 | 0 => 0 | n => n, fun | n => n⟩
theorem Tryd.lays110 : Go.Proofs.Lays.n110 Tryd.prog Tryd.lays110_ren := {
  mixed := by kernel_rfl
  f109 := Tryd.func17.trans (congrArg some (by kernel_rfl))
  f110 := Tryd.func14.trans (congrArg some (by kernel_rfl))
  t0 := Tryd.underlying0
  a0 := Tryd.isAgg0
  z0 := Tryd.sizeOf0
  v0 := Tryd.zeroValue0
  t3 := Tryd.underlying3
  a3 := Tryd.isAgg3
  z3 := Tryd.sizeOf3
  v3 := Tryd.zeroValue3
  t4 := Tryd.underlying4
  a4 := Tryd.isAgg4
  z4 := Tryd.sizeOf4
  v4 := Tryd.zeroValue4
  t9 := Tryd.underlying9
  a9 := Tryd.isAgg9
  z9 := Tryd.sizeOf9
  v9 := Tryd.zeroValue9
  t31 := Tryd.underlying47
  a31 := Tryd.isAgg47
  z31 := Tryd.sizeOf47
  v31 := Tryd.zeroValue47 }
open Go.Lib in
/-- slices.Contains at []string: "Contains reports whether v is present in s.": IT RETURNS 'Lib.containsS (the elements) v', which is true just where v is among them ('Lib.containsS_iff'); the world is as it was. ITS CALLEE slices.Index IS MET BY ITS OWN CONTRACT OFF THE SHELF (lay that first): no loop is walked here. (LAID: no walk: one application.) -/
theorem Tryd.slices_Contains_string (b off n c : Nat) (zs : List ByteArray) (x : ByteArray) (w : World) (hz : n ≤ zs.length) (hbig : n ≤ 9223372036854775807) (hc : ∀ j, j < zs.length → w.cell? ⟨b, off + j, none⟩ = some (.string (zs.getD j ByteArray.empty))) :
    Calls Tryd.prog 14 #[.slice (some ⟨b, off, none⟩) n c, .string x] w fun e w' => e = .returned (.bool (Lib.containsS (zs.take n) x)) ∧ w' = w := Any.slices_Contains_string Tryd.lays110 b off n c zs x w hz hbig hc
end Go.Proofs
