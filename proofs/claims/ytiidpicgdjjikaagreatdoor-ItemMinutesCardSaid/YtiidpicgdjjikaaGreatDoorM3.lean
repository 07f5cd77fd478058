/- Texts of this seat, one behind the other (merged by a program of this session's own). -/
import Derived.Shelf.Strings.Builder1
import Derived.Shelf.Strings.Builder2
import Derived.Shelf.Strings.OnBuilder
import Derived.Shelf.Strings.Trim
import Derived.Shelf.Small.Utf8
import Derived.Shelf.Small.Strs
import Derived.Shelf.Small.Wraps
import Derived.Shelf.Strings.BuilderF
import Derived.Shelf.Strings.BuilderK
import Derived.Shelf.Strings.BuilderRune
import Derived.Shelf.Strconv.Itoa0
import Derived.Shelf.Strconv.Itoa1
import Derived.Shelf.LaysM
import Derived.Shelf.Strconv.Itoa2
import Derived.Shelf.Strconv.Itoa3
import Derived.Shelf.Strconv.Clone
import Derived.Shelf.Strconv.SyntaxError
import Derived.Shelf.LaysC
import Derived.Shelf.Strconv.ToError
import Derived.Shelf.Strconv.Lower
import Derived.Shelf.Strconv.RangeError
import Derived.Shelf.Strconv.ToErrorRange
import Derived.Ground.MpProg
import Derived.Shelf.Pu.ParseUintPublic10
import Derived.Shelf.Pu.ErrVarParseUint
import Derived.Shelf.Strings.Search1
import Derived.Shelf.Strings.Search2
import Derived.Shelf.Strings.Search3
import Derived.Shelf.Strings.Cut
import Derived.Shelf.Strings.Count
import Derived.Shelf.Strings.Shaped
import Derived.Shelf.GgClosure.StringsIndexFunc
import Derived.Ground.GgwProg
import Derived.Shelf.GgClosure.StringsIndexFuncTop
import Derived.Shelf.GgClosure.StringsRunes
import Derived.Shelf.Strings.Prefix
import Derived.Shelf.Strings.Split
import Derived.Shelf.Strings.Replace
import Derived.Shelf.Strings.Fold
import Derived.Shelf.Strings.SplitShaped
import Derived.Shelf.Unicode.Latin
import Derived.Shelf.Strings.Runes
import Derived.Shelf.Strings.IndexAny
import Derived.Shelf.Strings.AsciiSet
import Derived.Shelf.Strings.IndexAnyAll
import Derived.Shelf.Unicode.DecodeSlow
import Derived.Shelf.Unicode.DecodeAny
import Derived.Shelf.Unicode.DecodeLast
import Derived.Shelf.Unicode.CaseLookup
import Derived.Shelf.Unicode.CaseConvert
import Derived.Shelf.Unicode.CaseTo
import Derived.Shelf.Unicode.CaseLaid
import Derived.Shelf.Strings.MapAny
import Derived.Shelf.Strings.CaseAny
import Derived.Test.YtiidpicgdjjikaaGreatDoorProg

-- Shelf
/-
  DERIVED: THE SHELF's CONTRACTS AT THIS DUMP, IN PLAIN WORDS (tools/lay-plain.mjs out of 'YtiidpicgdjjikaaGreatDoorShelf0.lean', which tools/lay-shelf.mjs wrote): THE SAME DECLARATIONS UNDER THE SAME NAMES: 'import', 'namespace', 'open', 'def', 'theorem' AND NOTHING ELSE: no command of the shelf's: FOR A HAND-IN. Each laying: the table of numbers ('.._ren') and one theorem, a field a fact of the dump's own or the kernel's comparison; each contract: ONE APPLICATION.
-/
namespace Go.Proofs
open Go.Shelf
def Tryz.lays159_ren : Go.Shelf.Ren := ⟨fun | 159 => 104 | 165 => 70 | 166 => 71 | 167 => 123 | 169 => 73 | 230 => 124 | 204 => 125 | 240 => 95 | 241 => 96 | 197 => 72 | 118 => 140 | 168 => 141 | 270 => 142 | 262 => 143 | 276 => 119 | 277 => 120 | 260 => 97 | 242 => 160 | 313 => 161 | 278 => 185 | 274 => 163 | 275 => 164 | n => n, fun | 9 => 9 | 4 => 4 | 3 => 3 | 5 => 5 | 72 => 139 | 0 => 0 | 76 => 143 | 75 => 142 | 107 => 193 | 70 => 137 | 20 => 20 | 37 => 50 | 127 => 168 | 21 => 21 | 105 => 145 | 164 => 182 | 162 => 231 | 203 => 229 | 119 => 185 | 46 => 170 | 139 => 188 | 138 => 187 | 51 => 96 | 160 => 238 | 208 => 253 | 206 => 251 | 80 => 147 | n => n, fun | 13 => 3 | 3 => 1 | 4 => 2 | n => n⟩
theorem Tryz.lays159 : Go.Proofs.Lays.n159 Tryz.prog Tryz.lays159_ren := {
  mixed := by kernel_rfl
  f118 := Tryz.func140.trans (congrArg some (by kernel_rfl))
  f159 := Tryz.func104.trans (congrArg some (by kernel_rfl))
  f165 := Tryz.func70.trans (congrArg some (by kernel_rfl))
  f166 := Tryz.func71.trans (congrArg some (by kernel_rfl))
  f167 := Tryz.func123.trans (congrArg some (by kernel_rfl))
  f168 := Tryz.func141.trans (congrArg some (by kernel_rfl))
  f169 := Tryz.func73.trans (congrArg some (by kernel_rfl))
  f197 := Tryz.func72.trans (congrArg some (by kernel_rfl))
  f204 := Tryz.func125.trans (congrArg some (by kernel_rfl))
  f230 := Tryz.func124.trans (congrArg some (by kernel_rfl))
  f240 := Tryz.func95.trans (congrArg some (by kernel_rfl))
  f241 := Tryz.func96.trans (congrArg some (by kernel_rfl))
  f242 := Tryz.func160.trans (congrArg some (by kernel_rfl))
  f260 := Tryz.func97.trans (congrArg some (by kernel_rfl))
  f262 := Tryz.func143.trans (congrArg some (by kernel_rfl))
  f270 := Tryz.func142.trans (congrArg some (by kernel_rfl))
  f274 := Tryz.func163.trans (congrArg some (by kernel_rfl))
  f275 := Tryz.func164.trans (congrArg some (by kernel_rfl))
  f276 := Tryz.func119.trans (congrArg some (by kernel_rfl))
  f277 := Tryz.func120.trans (congrArg some (by kernel_rfl))
  f278 := Tryz.func185.trans (congrArg some (by kernel_rfl))
  f313 := Tryz.func161.trans (congrArg some (by kernel_rfl))
  t0 := Tryz.underlying0
  a0 := Tryz.isAgg0
  z0 := Tryz.sizeOf0
  v0 := Tryz.zeroValue0
  t3 := Tryz.underlying3
  a3 := Tryz.isAgg3
  z3 := Tryz.sizeOf3
  v3 := Tryz.zeroValue3
  t4 := Tryz.underlying4
  a4 := Tryz.isAgg4
  z4 := Tryz.sizeOf4
  v4 := Tryz.zeroValue4
  t5 := Tryz.underlying5
  a5 := Tryz.isAgg5
  z5 := Tryz.sizeOf5
  v5 := Tryz.zeroValue5
  t9 := Tryz.underlying9
  a9 := Tryz.isAgg9
  z9 := Tryz.sizeOf9
  v9 := Tryz.zeroValue9
  t20 := Tryz.underlying20
  a20 := Tryz.isAgg20
  z20 := Tryz.sizeOf20
  v20 := Tryz.zeroValue20
  t21 := Tryz.underlying21
  a21 := Tryz.isAgg21
  z21 := Tryz.sizeOf21
  v21 := Tryz.zeroValue21
  t37 := Tryz.underlying50
  a37 := Tryz.isAgg50
  z37 := Tryz.sizeOf50
  v37 := Tryz.zeroValue50
  t46 := Tryz.underlying170
  a46 := Tryz.isAgg170
  z46 := Tryz.sizeOf170
  v46 := Tryz.zeroValue170
  t51 := Tryz.underlying96
  a51 := Tryz.isAgg96
  z51 := Tryz.sizeOf96
  v51 := Tryz.zeroValue96
  t70 := Tryz.underlying137
  a70 := Tryz.isAgg137
  z70 := Tryz.sizeOf137
  v70 := Tryz.zeroValue137
  t72 := Tryz.underlying139
  a72 := Tryz.isAgg139
  z72 := Tryz.sizeOf139
  v72 := Tryz.zeroValue139
  t75 := Tryz.underlying142
  a75 := Tryz.isAgg142
  z75 := Tryz.sizeOf142
  v75 := Tryz.zeroValue142
  t76 := Tryz.underlying143
  a76 := Tryz.isAgg143
  z76 := Tryz.sizeOf143
  v76 := Tryz.zeroValue143
  t105 := Tryz.underlying145
  a105 := Tryz.isAgg145
  z105 := Tryz.sizeOf145
  v105 := Tryz.zeroValue145
  t107 := Tryz.underlying193
  a107 := Tryz.isAgg193
  z107 := Tryz.sizeOf193
  v107 := Tryz.zeroValue193
  t119 := Tryz.underlying185
  a119 := Tryz.isAgg185
  z119 := Tryz.sizeOf185
  t127 := Tryz.underlying168
  a127 := Tryz.isAgg168
  z127 := Tryz.sizeOf168
  v127 := Tryz.zeroValue168
  t138 := Tryz.underlying187
  a138 := Tryz.isAgg187
  z138 := Tryz.sizeOf187
  v138 := Tryz.zeroValue187
  t139 := Tryz.underlying188
  a139 := Tryz.isAgg188
  z139 := Tryz.sizeOf188
  v139 := Tryz.zeroValue188
  t160 := Tryz.underlying238
  a160 := Tryz.isAgg238
  z160 := Tryz.sizeOf238
  v160 := Tryz.zeroValue238
  t162 := Tryz.underlying231
  a162 := Tryz.isAgg231
  z162 := Tryz.sizeOf231
  v162 := Tryz.zeroValue231
  t164 := Tryz.underlying182
  a164 := Tryz.isAgg182
  z164 := Tryz.sizeOf182
  v164 := Tryz.zeroValue182
  t203 := Tryz.underlying229
  a203 := Tryz.isAgg229
  z203 := Tryz.sizeOf229
  v203 := Tryz.zeroValue229
  t206 := Tryz.underlying251
  a206 := Tryz.isAgg251
  z206 := Tryz.sizeOf251
  v206 := Tryz.zeroValue251
  t208 := Tryz.underlying253
  a208 := Tryz.isAgg253
  z208 := Tryz.sizeOf253
  v208 := Tryz.zeroValue253
  g3 := by kernel_rfl
  g4 := by kernel_rfl
  g13 := by kernel_rfl }
theorem Tryz.Builder_Extra_159 : Builder.Extra Tryz.prog Tryz.lays159_ren := {
  sizeBuilder := by kernel_rfl
  liesBuilder := by kernel_rfl
  t5 := Tryz.underlying5
  a5 := Tryz.isAgg5
  z5 := Tryz.sizeOf5
  v5 := Tryz.zeroValue5
  infoByte := by kernel_rfl
  cellsByte := by kernel_rfl
  sizeByte := by kernel_rfl
  neB5 := by decide }
def Tryz.lays161_ren : Go.Shelf.Ren := ⟨fun | 161 => 136 | 231 => 152 | 227 => 153 | 233 => 154 | 235 => 155 | 228 => 172 | 197 => 72 | 151 => 173 | 260 => 97 | 152 => 183 | 137 => 91 | 119 => 194 | 224 => 100 | 225 => 99 | 217 => 98 | 266 => 121 | n => n, fun | 9 => 9 | 4 => 4 | 3 => 3 | 5 => 5 | 117 => 223 | 116 => 222 | 0 => 0 | 124 => 226 | 105 => 145 | 21 => 21 | 119 => 185 | 46 => 170 | 139 => 188 | 138 => 187 | n => n, fun | 3 => 1 | 4 => 2 | n => n⟩
theorem Tryz.lays161 : Go.Proofs.Lays.n161 Tryz.prog Tryz.lays161_ren := {
  mixed := by kernel_rfl
  f119 := Tryz.func194.trans (congrArg some (by kernel_rfl))
  f137 := Tryz.func91.trans (congrArg some (by kernel_rfl))
  f151 := Tryz.func173.trans (congrArg some (by kernel_rfl))
  f152 := Tryz.func183.trans (congrArg some (by kernel_rfl))
  f161 := Tryz.func136.trans (congrArg some (by kernel_rfl))
  f197 := Tryz.func72.trans (congrArg some (by kernel_rfl))
  f217 := Tryz.func98.trans (congrArg some (by kernel_rfl))
  f224 := Tryz.func100.trans (congrArg some (by kernel_rfl))
  f225 := Tryz.func99.trans (congrArg some (by kernel_rfl))
  f227 := Tryz.func153.trans (congrArg some (by kernel_rfl))
  f228 := Tryz.func172.trans (congrArg some (by kernel_rfl))
  f231 := Tryz.func152.trans (congrArg some (by kernel_rfl))
  f233 := Tryz.func154.trans (congrArg some (by kernel_rfl))
  f235 := Tryz.func155.trans (congrArg some (by kernel_rfl))
  f260 := Tryz.func97.trans (congrArg some (by kernel_rfl))
  f266 := Tryz.func121.trans (congrArg some (by kernel_rfl))
  t0 := Tryz.underlying0
  a0 := Tryz.isAgg0
  z0 := Tryz.sizeOf0
  v0 := Tryz.zeroValue0
  t3 := Tryz.underlying3
  a3 := Tryz.isAgg3
  z3 := Tryz.sizeOf3
  v3 := Tryz.zeroValue3
  t4 := Tryz.underlying4
  a4 := Tryz.isAgg4
  z4 := Tryz.sizeOf4
  v4 := Tryz.zeroValue4
  t5 := Tryz.underlying5
  a5 := Tryz.isAgg5
  z5 := Tryz.sizeOf5
  v5 := Tryz.zeroValue5
  t9 := Tryz.underlying9
  a9 := Tryz.isAgg9
  z9 := Tryz.sizeOf9
  v9 := Tryz.zeroValue9
  t21 := Tryz.underlying21
  a21 := Tryz.isAgg21
  z21 := Tryz.sizeOf21
  v21 := Tryz.zeroValue21
  t46 := Tryz.underlying170
  a46 := Tryz.isAgg170
  z46 := Tryz.sizeOf170
  v46 := Tryz.zeroValue170
  t105 := Tryz.underlying145
  a105 := Tryz.isAgg145
  z105 := Tryz.sizeOf145
  v105 := Tryz.zeroValue145
  t116 := Tryz.underlying222
  a116 := Tryz.isAgg222
  z116 := Tryz.sizeOf222
  t117 := Tryz.underlying223
  a117 := Tryz.isAgg223
  z117 := Tryz.sizeOf223
  v117 := Tryz.zeroValue223
  t119 := Tryz.underlying185
  a119 := Tryz.isAgg185
  z119 := Tryz.sizeOf185
  t124 := Tryz.underlying226
  a124 := Tryz.isAgg226
  z124 := Tryz.sizeOf226
  v124 := Tryz.zeroValue226
  t138 := Tryz.underlying187
  a138 := Tryz.isAgg187
  z138 := Tryz.sizeOf187
  v138 := Tryz.zeroValue187
  t139 := Tryz.underlying188
  a139 := Tryz.isAgg188
  z139 := Tryz.sizeOf188
  v139 := Tryz.zeroValue188
  g3 := by kernel_rfl
  g4 := by kernel_rfl }
open Go.RowKit in
/-- strings.TrimLeft: "TrimLeft returns a slice of the string s with all leading Unicode code points contained in cutset removed.": AT A cutset OF ONE ASCII BYTE. The world is as it was. (LAID: no walk: one application.) -/
theorem Tryz.strings_TrimLeft_one (s : ByteArray) (c : UInt8) (hc : c.toNat < 128) (w : World) :
    Calls Tryz.prog 136 #[.string s, .string ⟨#[c]⟩] w fun e w' => e = .returned (.string ⟨(Lib.trimLeftB s.data.toList c).toArray⟩) ∧ w' = w := Any.strings_TrimLeft_one Tryz.lays161 s c hc w
def Tryz.lays162_ren : Go.Shelf.Ren := ⟨fun | 162 => 156 | 232 => 174 | 227 => 153 | 234 => 175 | 236 => 176 | 228 => 172 | 271 => 128 | 151 => 173 | 120 => 145 | 197 => 72 | 152 => 183 | 260 => 97 | 137 => 91 | 119 => 194 | 224 => 100 | 225 => 99 | 217 => 98 | 266 => 121 | n => n, fun | 9 => 9 | 4 => 4 | 3 => 3 | 5 => 5 | 117 => 223 | 116 => 222 | 0 => 0 | 124 => 226 | 21 => 21 | 105 => 145 | 46 => 170 | 119 => 185 | 139 => 188 | 138 => 187 | n => n, fun | 3 => 1 | 4 => 2 | n => n⟩
theorem Tryz.lays162 : Go.Proofs.Lays.n162 Tryz.prog Tryz.lays162_ren := {
  mixed := by kernel_rfl
  f119 := Tryz.func194.trans (congrArg some (by kernel_rfl))
  f120 := Tryz.func145.trans (congrArg some (by kernel_rfl))
  f137 := Tryz.func91.trans (congrArg some (by kernel_rfl))
  f151 := Tryz.func173.trans (congrArg some (by kernel_rfl))
  f152 := Tryz.func183.trans (congrArg some (by kernel_rfl))
  f162 := Tryz.func156.trans (congrArg some (by kernel_rfl))
  f197 := Tryz.func72.trans (congrArg some (by kernel_rfl))
  f217 := Tryz.func98.trans (congrArg some (by kernel_rfl))
  f224 := Tryz.func100.trans (congrArg some (by kernel_rfl))
  f225 := Tryz.func99.trans (congrArg some (by kernel_rfl))
  f227 := Tryz.func153.trans (congrArg some (by kernel_rfl))
  f228 := Tryz.func172.trans (congrArg some (by kernel_rfl))
  f232 := Tryz.func174.trans (congrArg some (by kernel_rfl))
  f234 := Tryz.func175.trans (congrArg some (by kernel_rfl))
  f236 := Tryz.func176.trans (congrArg some (by kernel_rfl))
  f260 := Tryz.func97.trans (congrArg some (by kernel_rfl))
  f266 := Tryz.func121.trans (congrArg some (by kernel_rfl))
  f271 := Tryz.func128.trans (congrArg some (by kernel_rfl))
  t0 := Tryz.underlying0
  a0 := Tryz.isAgg0
  z0 := Tryz.sizeOf0
  v0 := Tryz.zeroValue0
  t3 := Tryz.underlying3
  a3 := Tryz.isAgg3
  z3 := Tryz.sizeOf3
  v3 := Tryz.zeroValue3
  t4 := Tryz.underlying4
  a4 := Tryz.isAgg4
  z4 := Tryz.sizeOf4
  v4 := Tryz.zeroValue4
  t5 := Tryz.underlying5
  a5 := Tryz.isAgg5
  z5 := Tryz.sizeOf5
  v5 := Tryz.zeroValue5
  t9 := Tryz.underlying9
  a9 := Tryz.isAgg9
  z9 := Tryz.sizeOf9
  v9 := Tryz.zeroValue9
  t21 := Tryz.underlying21
  a21 := Tryz.isAgg21
  z21 := Tryz.sizeOf21
  v21 := Tryz.zeroValue21
  t46 := Tryz.underlying170
  a46 := Tryz.isAgg170
  z46 := Tryz.sizeOf170
  v46 := Tryz.zeroValue170
  t105 := Tryz.underlying145
  a105 := Tryz.isAgg145
  z105 := Tryz.sizeOf145
  v105 := Tryz.zeroValue145
  t116 := Tryz.underlying222
  a116 := Tryz.isAgg222
  z116 := Tryz.sizeOf222
  t117 := Tryz.underlying223
  a117 := Tryz.isAgg223
  z117 := Tryz.sizeOf223
  v117 := Tryz.zeroValue223
  t119 := Tryz.underlying185
  a119 := Tryz.isAgg185
  z119 := Tryz.sizeOf185
  t124 := Tryz.underlying226
  a124 := Tryz.isAgg226
  z124 := Tryz.sizeOf226
  v124 := Tryz.zeroValue226
  t138 := Tryz.underlying187
  a138 := Tryz.isAgg187
  z138 := Tryz.sizeOf187
  v138 := Tryz.zeroValue187
  t139 := Tryz.underlying188
  a139 := Tryz.isAgg188
  z139 := Tryz.sizeOf188
  v139 := Tryz.zeroValue188
  g3 := by kernel_rfl
  g4 := by kernel_rfl }
open Go.RowKit in
/-- strings.TrimRight: "TrimRight returns a slice of the string s, with all trailing Unicode code points contained in cutset removed.": AT A cutset OF ONE ASCII BYTE. The world is as it was. (LAID: no walk: one application.) -/
theorem Tryz.strings_TrimRight_one (s : ByteArray) (c : UInt8) (hc : c.toNat < 128) (w : World) (hs : s.size ≤ 9223372036854775807) :
    Calls Tryz.prog 156 #[.string s, .string ⟨#[c]⟩] w fun e w' => e = .returned (.string ⟨(Lib.trimRightB s.data.toList c).toArray⟩) ∧ w' = w := Any.strings_TrimRight_one Tryz.lays162 s c hc w hs
def Tryz.lays103_ren : Go.Shelf.Ren := ⟨fun | 103 => 133 | 210 => 149 | 206 => 166 | n => n, fun | 9 => 9 | 4 => 4 | 24 => 199 | 3 => 3 | n => n, fun | n => n⟩
theorem Tryz.lays103 : Go.Proofs.Lays.n103 Tryz.prog Tryz.lays103_ren := {
  mixed := by kernel_rfl
  f103 := Tryz.func133.trans (congrArg some (by kernel_rfl))
  f206 := Tryz.func166.trans (congrArg some (by kernel_rfl))
  f210 := Tryz.func149.trans (congrArg some (by kernel_rfl))
  t3 := Tryz.underlying3
  a3 := Tryz.isAgg3
  z3 := Tryz.sizeOf3
  v3 := Tryz.zeroValue3
  t4 := Tryz.underlying4
  a4 := Tryz.isAgg4
  z4 := Tryz.sizeOf4
  v4 := Tryz.zeroValue4
  t9 := Tryz.underlying9
  a9 := Tryz.isAgg9
  z9 := Tryz.sizeOf9
  v9 := Tryz.zeroValue9
  t24 := Tryz.underlying199
  a24 := Tryz.isAgg199
  z24 := Tryz.sizeOf199
  v24 := Tryz.zeroValue199 }
open Go.RowKit in
/-- strings.CutPrefix: "CutPrefix returns s without the provided leading prefix string and reports whether it found the prefix. If s doesn't start with prefix, CutPrefix returns s, false. If prefix is the empty string, CutPrefix returns s, true.": IT RETURNS '(Lib.trimPrefix s p, Lib.hasPrefix s p)'; the world is as it was. (LAID: no walk: one application.) -/
theorem Tryz.strings_CutPrefix (s p : ByteArray) (w : World) :
    Calls Tryz.prog 133 #[.string s, .string p] w fun e w' => e = .returned (.tuple #[.string ⟨(Lib.trimPrefix s.data.toList p.data.toList).toArray⟩, .bool (Lib.hasPrefix s.data.toList p.data.toList)]) ∧ w' = w := Any.strings_CutPrefix Tryz.lays103 s p w
def Tryz.laysM171_ren : Go.Shelf.Ren := ⟨fun | 171 => 147 | 243 => 165 | 246 => 186 | 283 => 195 | 284 => 196 | 285 => 197 | 286 => 198 | 129 => 201 | 317 => 200 | 318 => 202 | 319 => 203 | 320 => 204 | 337 => 205 | 338 => 206 | n => n, fun | 3 => 3 | 9 => 9 | 2 => 2 | 4 => 4 | 171 => 263 | 0 => 0 | 53 => 203 | 37 => 50 | 5 => 5 | 173 => 266 | 212 => 273 | 51 => 96 | 20 => 20 | 213 => 274 | 46 => 170 | 232 => 277 | 233 => 278 | n => n, fun | 17 => 8 | 18 => 9 | 19 => 10 | n => n⟩
theorem Tryz.laysM171 : Go.Proofs.LaysM.n171 Tryz.prog Tryz.laysM171_ren := {
  mixed := by kernel_rfl
  f129 := Tryz.func201.trans (congrArg some (by kernel_rfl))
  f171 := Tryz.func147.trans (congrArg some (by kernel_rfl))
  f243 := Tryz.func165.trans (congrArg some (by kernel_rfl))
  f246 := Tryz.func186.trans (congrArg some (by kernel_rfl))
  f283 := Tryz.func195.trans (congrArg some (by kernel_rfl))
  f284 := Tryz.func196.trans (congrArg some (by kernel_rfl))
  f285 := Tryz.func197.trans (congrArg some (by kernel_rfl))
  f286 := Tryz.func198.trans (congrArg some (by kernel_rfl))
  f317 := Tryz.func200.trans (congrArg some (by kernel_rfl))
  f318 := Tryz.func202.trans (congrArg some (by kernel_rfl))
  f319 := Tryz.func203.trans (congrArg some (by kernel_rfl))
  f320 := Tryz.func204.trans (congrArg some (by kernel_rfl))
  f337 := Tryz.func205.trans (congrArg some (by kernel_rfl))
  f338 := Tryz.func206.trans (congrArg some (by kernel_rfl))
  t0 := Tryz.underlying0
  a0 := Tryz.isAgg0
  z0 := Tryz.sizeOf0
  v0 := Tryz.zeroValue0
  t2 := Tryz.underlying2
  a2 := Tryz.isAgg2
  z2 := Tryz.sizeOf2
  v2 := Tryz.zeroValue2
  t3 := Tryz.underlying3
  a3 := Tryz.isAgg3
  z3 := Tryz.sizeOf3
  v3 := Tryz.zeroValue3
  t4 := Tryz.underlying4
  a4 := Tryz.isAgg4
  z4 := Tryz.sizeOf4
  v4 := Tryz.zeroValue4
  t5 := Tryz.underlying5
  a5 := Tryz.isAgg5
  z5 := Tryz.sizeOf5
  v5 := Tryz.zeroValue5
  t9 := Tryz.underlying9
  a9 := Tryz.isAgg9
  z9 := Tryz.sizeOf9
  v9 := Tryz.zeroValue9
  t20 := Tryz.underlying20
  a20 := Tryz.isAgg20
  z20 := Tryz.sizeOf20
  v20 := Tryz.zeroValue20
  t37 := Tryz.underlying50
  a37 := Tryz.isAgg50
  z37 := Tryz.sizeOf50
  v37 := Tryz.zeroValue50
  t46 := Tryz.underlying170
  a46 := Tryz.isAgg170
  z46 := Tryz.sizeOf170
  v46 := Tryz.zeroValue170
  t51 := Tryz.underlying96
  a51 := Tryz.isAgg96
  z51 := Tryz.sizeOf96
  v51 := Tryz.zeroValue96
  t53 := Tryz.underlying203
  a53 := Tryz.isAgg203
  z53 := Tryz.sizeOf203
  v53 := Tryz.zeroValue203
  t171 := Tryz.underlying263
  a171 := Tryz.isAgg263
  z171 := Tryz.sizeOf263
  v171 := Tryz.zeroValue263
  t173 := Tryz.underlying266
  a173 := Tryz.isAgg266
  z173 := Tryz.sizeOf266
  v173 := Tryz.zeroValue266
  t212 := Tryz.underlying273
  a212 := Tryz.isAgg273
  z212 := Tryz.sizeOf273
  v212 := Tryz.zeroValue273
  t213 := Tryz.underlying274
  a213 := Tryz.isAgg274
  z213 := Tryz.sizeOf274
  t232 := Tryz.underlying277
  a232 := Tryz.isAgg277
  z232 := Tryz.sizeOf277
  v232 := Tryz.zeroValue277
  t233 := Tryz.underlying278
  a233 := Tryz.isAgg278
  z233 := Tryz.sizeOf278
  v233 := Tryz.zeroValue278
  g17 := by kernel_rfl
  g18 := by kernel_rfl
  g19 := by kernel_rfl
  i0 := by kernel_rfl
  i2 := by kernel_rfl
  i3 := by kernel_rfl
  i4 := by kernel_rfl
  i5 := by kernel_rfl
  i9 := by kernel_rfl
  i20 := by kernel_rfl
  i37 := by kernel_rfl
  i46 := by kernel_rfl
  i51 := by kernel_rfl
  i53 := by kernel_rfl
  i171 := by kernel_rfl
  i173 := by kernel_rfl
  i212 := by kernel_rfl
  i232 := by kernel_rfl
  i233 := by kernel_rfl
  m17 := by kernel_rfl
  m18 := by kernel_rfl
  m19 := by kernel_rfl }
open Go.RowKit Go.Sort Go.Lib in
/-- strconv.Itoa: "Itoa is equivalent to FormatInt(int64(i), 10).": i's DECIMAL NUMERAL ('Lib.itoa': a '-' where i is negative, then the digits), FOR EVERY int. The world behind the call: the world before it, new blocks behind the heap (the library's 'var a [24]byte'), draws. (LAID: no walk: one application.) -/
theorem Tryz.strconv_Itoa (n : Int) (h0 : -9223372036854775808 ≤ n) (h1 : n ≤ 9223372036854775807) (w : World) (htab : Lib.TabIs Tryz.prog w "internal/strconv.uint64pow10" .u64 Lib.pow10Tab) :
    Calls Tryz.prog 147 #[.int .i64 n] w fun e w' => e = .returned (.string ⟨(Lib.itoa n).toArray⟩) ∧ ∃ k os, w' = grow (w.drewN k) os := Any.strconv_Itoa Tryz.laysM171 n h0 h1 w htab
def Tryz.laysC245_ren : Go.Shelf.Ren := ⟨fun | 245 => 158 | 279 => 179 | 280 => 180 | 281 => 181 | 282 => 182 | 316 => 192 | 171 => 147 | 205 => 193 | 243 => 165 | 246 => 186 | 283 => 195 | 284 => 196 | 285 => 197 | 286 => 198 | 129 => 201 | 317 => 200 | 318 => 202 | 319 => 203 | 320 => 204 | 337 => 205 | 338 => 206 | n => n, fun | 9 => 9 | 3 => 3 | 75 => 142 | 167 => 245 | 4 => 4 | 168 => 246 | 210 => 261 | 37 => 50 | 0 => 0 | 127 => 168 | 145 => 271 | 143 => 269 | 2 => 2 | 171 => 263 | 53 => 203 | 5 => 5 | 173 => 266 | 212 => 273 | 51 => 96 | 20 => 20 | 213 => 274 | 46 => 170 | 232 => 277 | 233 => 278 | 80 => 147 | n => n, fun | 15 => 6 | 16 => 7 | 17 => 8 | 18 => 9 | 19 => 10 | n => n⟩
theorem Tryz.laysC245 : Go.Proofs.LaysC.n245 Tryz.prog Tryz.laysC245_ren := {
  mixed := by kernel_rfl
  f129 := Tryz.func201.trans (congrArg some (by kernel_rfl))
  f171 := Tryz.func147.trans (congrArg some (by kernel_rfl))
  f205 := Tryz.func193.trans (congrArg some (by kernel_rfl))
  f243 := Tryz.func165.trans (congrArg some (by kernel_rfl))
  f245 := Tryz.func158.trans (congrArg some (by kernel_rfl))
  f246 := Tryz.func186.trans (congrArg some (by kernel_rfl))
  f279 := Tryz.func179.trans (congrArg some (by kernel_rfl))
  f280 := Tryz.func180.trans (congrArg some (by kernel_rfl))
  f281 := Tryz.func181.trans (congrArg some (by kernel_rfl))
  f282 := Tryz.func182.trans (congrArg some (by kernel_rfl))
  f283 := Tryz.func195.trans (congrArg some (by kernel_rfl))
  f284 := Tryz.func196.trans (congrArg some (by kernel_rfl))
  f285 := Tryz.func197.trans (congrArg some (by kernel_rfl))
  f286 := Tryz.func198.trans (congrArg some (by kernel_rfl))
  f316 := Tryz.func192.trans (congrArg some (by kernel_rfl))
  f317 := Tryz.func200.trans (congrArg some (by kernel_rfl))
  f318 := Tryz.func202.trans (congrArg some (by kernel_rfl))
  f319 := Tryz.func203.trans (congrArg some (by kernel_rfl))
  f320 := Tryz.func204.trans (congrArg some (by kernel_rfl))
  f337 := Tryz.func205.trans (congrArg some (by kernel_rfl))
  f338 := Tryz.func206.trans (congrArg some (by kernel_rfl))
  t0 := Tryz.underlying0
  a0 := Tryz.isAgg0
  z0 := Tryz.sizeOf0
  v0 := Tryz.zeroValue0
  t2 := Tryz.underlying2
  a2 := Tryz.isAgg2
  z2 := Tryz.sizeOf2
  v2 := Tryz.zeroValue2
  t3 := Tryz.underlying3
  a3 := Tryz.isAgg3
  z3 := Tryz.sizeOf3
  v3 := Tryz.zeroValue3
  t4 := Tryz.underlying4
  a4 := Tryz.isAgg4
  z4 := Tryz.sizeOf4
  v4 := Tryz.zeroValue4
  t5 := Tryz.underlying5
  a5 := Tryz.isAgg5
  z5 := Tryz.sizeOf5
  v5 := Tryz.zeroValue5
  t9 := Tryz.underlying9
  a9 := Tryz.isAgg9
  z9 := Tryz.sizeOf9
  v9 := Tryz.zeroValue9
  t20 := Tryz.underlying20
  a20 := Tryz.isAgg20
  z20 := Tryz.sizeOf20
  v20 := Tryz.zeroValue20
  t37 := Tryz.underlying50
  a37 := Tryz.isAgg50
  z37 := Tryz.sizeOf50
  v37 := Tryz.zeroValue50
  t46 := Tryz.underlying170
  a46 := Tryz.isAgg170
  z46 := Tryz.sizeOf170
  v46 := Tryz.zeroValue170
  t51 := Tryz.underlying96
  a51 := Tryz.isAgg96
  z51 := Tryz.sizeOf96
  v51 := Tryz.zeroValue96
  t53 := Tryz.underlying203
  a53 := Tryz.isAgg203
  z53 := Tryz.sizeOf203
  v53 := Tryz.zeroValue203
  t75 := Tryz.underlying142
  a75 := Tryz.isAgg142
  z75 := Tryz.sizeOf142
  v75 := Tryz.zeroValue142
  t127 := Tryz.underlying168
  a127 := Tryz.isAgg168
  z127 := Tryz.sizeOf168
  v127 := Tryz.zeroValue168
  t143 := Tryz.underlying269
  a143 := Tryz.isAgg269
  z143 := Tryz.sizeOf269
  v143 := Tryz.zeroValue269
  t145 := Tryz.underlying271
  a145 := Tryz.isAgg271
  z145 := Tryz.sizeOf271
  v145 := Tryz.zeroValue271
  t167 := Tryz.underlying245
  a167 := Tryz.isAgg245
  z167 := Tryz.sizeOf245
  v167 := Tryz.zeroValue245
  t168 := Tryz.underlying246
  a168 := Tryz.isAgg246
  z168 := Tryz.sizeOf246
  v168 := Tryz.zeroValue246
  t171 := Tryz.underlying263
  a171 := Tryz.isAgg263
  z171 := Tryz.sizeOf263
  v171 := Tryz.zeroValue263
  t173 := Tryz.underlying266
  a173 := Tryz.isAgg266
  z173 := Tryz.sizeOf266
  v173 := Tryz.zeroValue266
  t210 := Tryz.underlying261
  a210 := Tryz.isAgg261
  z210 := Tryz.sizeOf261
  v210 := Tryz.zeroValue261
  t212 := Tryz.underlying273
  a212 := Tryz.isAgg273
  z212 := Tryz.sizeOf273
  v212 := Tryz.zeroValue273
  t213 := Tryz.underlying274
  a213 := Tryz.isAgg274
  z213 := Tryz.sizeOf274
  t232 := Tryz.underlying277
  a232 := Tryz.isAgg277
  z232 := Tryz.sizeOf277
  v232 := Tryz.zeroValue277
  t233 := Tryz.underlying278
  a233 := Tryz.isAgg278
  z233 := Tryz.sizeOf278
  v233 := Tryz.zeroValue278
  g15 := by kernel_rfl
  g16 := by kernel_rfl
  g17 := by kernel_rfl
  g18 := by kernel_rfl
  g19 := by kernel_rfl
  t80 := Tryz.underlying147
  a80 := Tryz.isAgg147
  z80 := Tryz.sizeOf147
  v80 := Tryz.zeroValue147
  i0 := by kernel_rfl
  i2 := by kernel_rfl
  i3 := by kernel_rfl
  i4 := by kernel_rfl
  i5 := by kernel_rfl
  i9 := by kernel_rfl
  i20 := by kernel_rfl
  i37 := by kernel_rfl
  i46 := by kernel_rfl
  i51 := by kernel_rfl
  i53 := by kernel_rfl
  i75 := by kernel_rfl
  i80 := by kernel_rfl
  i127 := by kernel_rfl
  i143 := by kernel_rfl
  i145 := by kernel_rfl
  i167 := by kernel_rfl
  i168 := by kernel_rfl
  i171 := by kernel_rfl
  i173 := by kernel_rfl
  i210 := by kernel_rfl
  i212 := by kernel_rfl
  i232 := by kernel_rfl
  i233 := by kernel_rfl
  m15 := by kernel_rfl
  m16 := by kernel_rfl
  m17 := by kernel_rfl
  m18 := by kernel_rfl
  m19 := by kernel_rfl
  c0 := by kernel_rfl
  c2 := by kernel_rfl
  c3 := by kernel_rfl
  c4 := by kernel_rfl
  c5 := by kernel_rfl
  c9 := by kernel_rfl
  c20 := by kernel_rfl
  c37 := by kernel_rfl
  c46 := by kernel_rfl
  c51 := by kernel_rfl
  c53 := by kernel_rfl
  c75 := by kernel_rfl
  c80 := by kernel_rfl
  c127 := by kernel_rfl
  c143 := by kernel_rfl
  c145 := by kernel_rfl
  c167 := by kernel_rfl
  c168 := by kernel_rfl
  c171 := by kernel_rfl
  c173 := by kernel_rfl
  c210 := by kernel_rfl
  c212 := by kernel_rfl
  c213 := by kernel_rfl
  c232 := by kernel_rfl
  c233 := by kernel_rfl }
open Go.RowKit in
/-- strconv.toError, at the inner package's ErrSyntax: 'syntaxError(fn, s)' as an error: A *NumError IN A NEW BLOCK. (LAID: no walk: one application.) -/
theorem Tryz.strconv_toError_syntax (fn s : ByteArray) (base bits : Int) (ev : Value) (w : World) (hlim : s.size ≤ 281474976710656) (hv : w.cell? ⟨6, 0, none⟩ = some ev) (hev : ev = .nilIface ∨ ∃ te pe, ev = .iface te pe) :
    Calls Tryz.prog 158 #[.string fn, .string s, .int .i64 base, .int .i64 bits, .iface 245 (.int .i64 2)] w fun e w' => ∃ N, e = .returned (.iface 246 (.pointer (some ⟨N, 0, none⟩))) ∧ w.heap.size ≤ N ∧ w'.heap[N]? = some (.cells #[.string fn, .string s, ev] 261 (0, 0)) ∧ Below w.heap.size w w' := Any.strconv_toError_syntax Tryz.laysC245 fn s base bits ev w hlim hv hev
def Tryz.lays321_ren : Go.Shelf.Ren := ⟨fun | 321 => 177 | n => n, fun | 5 => 5 | n => n, fun | n => n⟩
theorem Tryz.lays321 : Go.Proofs.Lays.n321 Tryz.prog Tryz.lays321_ren := {
  mixed := by kernel_rfl
  f321 := Tryz.func177.trans (congrArg some (by kernel_rfl))
  t5 := Tryz.underlying5
  a5 := Tryz.isAgg5
  z5 := Tryz.sizeOf5
  v5 := Tryz.zeroValue5 }
open Go.RowKit in
/-- internal/strconv.lower: 'c | ('x' - 'X')': the bit 32 set. The world is as it was. (LAID: no walk: one application.) -/
theorem Tryz.internal_strconv_lower (c : Int) (w : World) :
    Calls Tryz.prog 177 #[.int .u8 c] w fun e w' => e = .returned (.int .u8 (bits .or .u8 c 32)) ∧ w' = w := Any.internal_strconv_lower Tryz.lays321 c w
open Go.RowKit in
/-- strconv.toError, at the inner package's ErrRange: 'rangeError(fn, s)' as an error: A *NumError IN A NEW BLOCK. (LAID: no walk: one application.) -/
theorem Tryz.strconv_toError_range (fn s : ByteArray) (base bits : Int) (ev : Value) (w : World) (hlim : s.size ≤ 281474976710656) (hv : w.cell? ⟨7, 0, none⟩ = some ev) (hev : ev = .nilIface ∨ ∃ te pe, ev = .iface te pe) :
    Calls Tryz.prog 158 #[.string fn, .string s, .int .i64 base, .int .i64 bits, .iface 245 (.int .i64 1)] w fun e w' => ∃ N, e = .returned (.iface 246 (.pointer (some ⟨N, 0, none⟩))) ∧ w.heap.size ≤ N ∧ w'.heap[N]? = some (.cells #[.string fn, .string s, ev] 261 (0, 0)) ∧ Below w.heap.size w w' := Any.strconv_toError_range Tryz.laysC245 fn s base bits ev w hlim hv hev
def Tryz.laysPu14_ren : Go.Shelf.Ren := ⟨fun | 14 => 138 | 16 => 157 | 17 => 158 | 19 => 177 | 20 => 178 | 21 => 179 | 22 => 180 | 23 => 181 | 24 => 182 | 25 => 192 | 27 => 147 | 26 => 193 | 28 => 165 | 29 => 186 | 30 => 195 | 31 => 196 | 32 => 197 | 33 => 198 | 35 => 201 | 34 => 200 | 36 => 202 | 37 => 203 | 38 => 204 | 39 => 205 | 40 => 206 | n => n, fun | 9 => 9 | 3 => 3 | 22 => 203 | 24 => 142 | 25 => 204 | 4 => 4 | 34 => 245 | 5 => 5 | 36 => 170 | 37 => 50 | 0 => 0 | 39 => 246 | 21 => 21 | 44 => 261 | 47 => 168 | 50 => 271 | 48 => 269 | 2 => 2 | 52 => 263 | 55 => 266 | 59 => 273 | 60 => 96 | 20 => 20 | 61 => 274 | 65 => 277 | 66 => 278 | 67 => 147 | n => n, fun | 0 => 6 | 1 => 7 | 2 => 8 | 3 => 9 | 4 => 10 | n => n⟩
theorem Tryz.laysPu14 : Go.Proofs.LaysPu.n14 Tryz.prog Tryz.laysPu14_ren := {
  mixed := by kernel_rfl
  f14 := Tryz.func138.trans (congrArg some (by kernel_rfl))
  f16 := Tryz.func157.trans (congrArg some (by kernel_rfl))
  f17 := Tryz.func158.trans (congrArg some (by kernel_rfl))
  f19 := Tryz.func177.trans (congrArg some (by kernel_rfl))
  f20 := Tryz.func178.trans (congrArg some (by kernel_rfl))
  f21 := Tryz.func179.trans (congrArg some (by kernel_rfl))
  f22 := Tryz.func180.trans (congrArg some (by kernel_rfl))
  f23 := Tryz.func181.trans (congrArg some (by kernel_rfl))
  f24 := Tryz.func182.trans (congrArg some (by kernel_rfl))
  f25 := Tryz.func192.trans (congrArg some (by kernel_rfl))
  f26 := Tryz.func193.trans (congrArg some (by kernel_rfl))
  f27 := Tryz.func147.trans (congrArg some (by kernel_rfl))
  f28 := Tryz.func165.trans (congrArg some (by kernel_rfl))
  f29 := Tryz.func186.trans (congrArg some (by kernel_rfl))
  f30 := Tryz.func195.trans (congrArg some (by kernel_rfl))
  f31 := Tryz.func196.trans (congrArg some (by kernel_rfl))
  f32 := Tryz.func197.trans (congrArg some (by kernel_rfl))
  f33 := Tryz.func198.trans (congrArg some (by kernel_rfl))
  f34 := Tryz.func200.trans (congrArg some (by kernel_rfl))
  f35 := Tryz.func201.trans (congrArg some (by kernel_rfl))
  f36 := Tryz.func202.trans (congrArg some (by kernel_rfl))
  f37 := Tryz.func203.trans (congrArg some (by kernel_rfl))
  f38 := Tryz.func204.trans (congrArg some (by kernel_rfl))
  f39 := Tryz.func205.trans (congrArg some (by kernel_rfl))
  f40 := Tryz.func206.trans (congrArg some (by kernel_rfl))
  t0 := Tryz.underlying0
  a0 := Tryz.isAgg0
  z0 := Tryz.sizeOf0
  v0 := Tryz.zeroValue0
  i0 := by kernel_rfl
  t2 := Tryz.underlying2
  a2 := Tryz.isAgg2
  z2 := Tryz.sizeOf2
  v2 := Tryz.zeroValue2
  i2 := by kernel_rfl
  t3 := Tryz.underlying3
  a3 := Tryz.isAgg3
  z3 := Tryz.sizeOf3
  v3 := Tryz.zeroValue3
  i3 := by kernel_rfl
  t4 := Tryz.underlying4
  a4 := Tryz.isAgg4
  z4 := Tryz.sizeOf4
  v4 := Tryz.zeroValue4
  i4 := by kernel_rfl
  t5 := Tryz.underlying5
  a5 := Tryz.isAgg5
  z5 := Tryz.sizeOf5
  v5 := Tryz.zeroValue5
  i5 := by kernel_rfl
  t9 := Tryz.underlying9
  a9 := Tryz.isAgg9
  z9 := Tryz.sizeOf9
  v9 := Tryz.zeroValue9
  i9 := by kernel_rfl
  t20 := Tryz.underlying20
  a20 := Tryz.isAgg20
  z20 := Tryz.sizeOf20
  v20 := Tryz.zeroValue20
  i20 := by kernel_rfl
  t21 := Tryz.underlying21
  a21 := Tryz.isAgg21
  z21 := Tryz.sizeOf21
  v21 := Tryz.zeroValue21
  i21 := by kernel_rfl
  t22 := Tryz.underlying203
  a22 := Tryz.isAgg203
  z22 := Tryz.sizeOf203
  v22 := Tryz.zeroValue203
  i22 := by kernel_rfl
  t24 := Tryz.underlying142
  a24 := Tryz.isAgg142
  z24 := Tryz.sizeOf142
  v24 := Tryz.zeroValue142
  i24 := by kernel_rfl
  t25 := Tryz.underlying204
  a25 := Tryz.isAgg204
  z25 := Tryz.sizeOf204
  v25 := Tryz.zeroValue204
  i25 := by kernel_rfl
  t34 := Tryz.underlying245
  a34 := Tryz.isAgg245
  z34 := Tryz.sizeOf245
  v34 := Tryz.zeroValue245
  i34 := by kernel_rfl
  c34 := by kernel_rfl
  t36 := Tryz.underlying170
  a36 := Tryz.isAgg170
  z36 := Tryz.sizeOf170
  v36 := Tryz.zeroValue170
  i36 := by kernel_rfl
  t37 := Tryz.underlying50
  a37 := Tryz.isAgg50
  z37 := Tryz.sizeOf50
  v37 := Tryz.zeroValue50
  i37 := by kernel_rfl
  t39 := Tryz.underlying246
  a39 := Tryz.isAgg246
  z39 := Tryz.sizeOf246
  v39 := Tryz.zeroValue246
  i39 := by kernel_rfl
  t44 := Tryz.underlying261
  a44 := Tryz.isAgg261
  z44 := Tryz.sizeOf261
  v44 := Tryz.zeroValue261
  i44 := by kernel_rfl
  t47 := Tryz.underlying168
  a47 := Tryz.isAgg168
  z47 := Tryz.sizeOf168
  v47 := Tryz.zeroValue168
  i47 := by kernel_rfl
  t48 := Tryz.underlying269
  a48 := Tryz.isAgg269
  z48 := Tryz.sizeOf269
  v48 := Tryz.zeroValue269
  i48 := by kernel_rfl
  t50 := Tryz.underlying271
  a50 := Tryz.isAgg271
  z50 := Tryz.sizeOf271
  v50 := Tryz.zeroValue271
  i50 := by kernel_rfl
  t52 := Tryz.underlying263
  a52 := Tryz.isAgg263
  z52 := Tryz.sizeOf263
  v52 := Tryz.zeroValue263
  i52 := by kernel_rfl
  t55 := Tryz.underlying266
  a55 := Tryz.isAgg266
  z55 := Tryz.sizeOf266
  v55 := Tryz.zeroValue266
  i55 := by kernel_rfl
  t59 := Tryz.underlying273
  a59 := Tryz.isAgg273
  z59 := Tryz.sizeOf273
  v59 := Tryz.zeroValue273
  i59 := by kernel_rfl
  t60 := Tryz.underlying96
  a60 := Tryz.isAgg96
  z60 := Tryz.sizeOf96
  v60 := Tryz.zeroValue96
  i60 := by kernel_rfl
  t61 := Tryz.underlying274
  a61 := Tryz.isAgg274
  z61 := Tryz.sizeOf274
  t65 := Tryz.underlying277
  a65 := Tryz.isAgg277
  z65 := Tryz.sizeOf277
  v65 := Tryz.zeroValue277
  i65 := by kernel_rfl
  t66 := Tryz.underlying278
  a66 := Tryz.isAgg278
  z66 := Tryz.sizeOf278
  v66 := Tryz.zeroValue278
  i66 := by kernel_rfl
  t67 := Tryz.underlying147
  a67 := Tryz.isAgg147
  z67 := Tryz.sizeOf147
  v67 := Tryz.zeroValue147
  i67 := by kernel_rfl
  g0 := by kernel_rfl
  m0 := by kernel_rfl
  g1 := by kernel_rfl
  m1 := by kernel_rfl
  g2 := by kernel_rfl
  m2 := by kernel_rfl
  g3 := by kernel_rfl
  m3 := by kernel_rfl
  g4 := by kernel_rfl
  m4 := by kernel_rfl }
open Go.RowKit in
/-- strconv.ParseUint(s, 10, 64), AT EVERY STRING THAT SPELLS A uint64 ('Lib.parseUintB 64 s.data.toList = .ok u'): u, AND NO ERROR. (LAID: no walk: one application.) -/
theorem Tryz.strconv_ParseUint_10_at64_ok (s : ByteArray) (hmax : s.size ≤ 9223372036854775806) (u : Nat) (h : Lib.parseUintB 64 s.data.toList = .ok u) (w : World) :
    Calls Tryz.prog 138 #[.string s, .int .i64 10, .int .i64 64] w fun e w' => e = .returned (.tuple #[.int .u64 u, .nilIface]) ∧ (w' = w ∨ w' = Lib.bytesWorld w 5 s) := Any.strconv_ParseUint_10_at64_ok Tryz.laysPu14 s hmax u h w
def Tryz.lays144_ren : Go.Shelf.Ren := ⟨fun | 144 => 24 | 143 => 51 | 219 => 74 | 217 => 98 | 225 => 99 | 224 => 100 | 267 => 101 | 266 => 121 | 314 => 122 | n => n, fun | 9 => 9 | 4 => 4 | 3 => 3 | 5 => 5 | 46 => 170 | 146 => 189 | 51 => 96 | n => n, fun | 1 => 0 | n => n⟩
theorem Tryz.lays144 : Go.Proofs.Lays.n144 Tryz.prog Tryz.lays144_ren := {
  mixed := by kernel_rfl
  f143 := Tryz.func51.trans (congrArg some (by kernel_rfl))
  f144 := Tryz.func24.trans (congrArg some (by kernel_rfl))
  f217 := Tryz.func98.trans (congrArg some (by kernel_rfl))
  f219 := Tryz.func74.trans (congrArg some (by kernel_rfl))
  f224 := Tryz.func100.trans (congrArg some (by kernel_rfl))
  f225 := Tryz.func99.trans (congrArg some (by kernel_rfl))
  f266 := Tryz.func121.trans (congrArg some (by kernel_rfl))
  f267 := Tryz.func101.trans (congrArg some (by kernel_rfl))
  f314 := Tryz.func122.trans (congrArg some (by kernel_rfl))
  t3 := Tryz.underlying3
  a3 := Tryz.isAgg3
  z3 := Tryz.sizeOf3
  v3 := Tryz.zeroValue3
  t4 := Tryz.underlying4
  a4 := Tryz.isAgg4
  z4 := Tryz.sizeOf4
  v4 := Tryz.zeroValue4
  t5 := Tryz.underlying5
  a5 := Tryz.isAgg5
  z5 := Tryz.sizeOf5
  v5 := Tryz.zeroValue5
  t9 := Tryz.underlying9
  a9 := Tryz.isAgg9
  z9 := Tryz.sizeOf9
  v9 := Tryz.zeroValue9
  t46 := Tryz.underlying170
  a46 := Tryz.isAgg170
  z46 := Tryz.sizeOf170
  v46 := Tryz.zeroValue170
  t51 := Tryz.underlying96
  a51 := Tryz.isAgg96
  z51 := Tryz.sizeOf96
  v51 := Tryz.zeroValue96
  t146 := Tryz.underlying189
  a146 := Tryz.isAgg189
  z146 := Tryz.sizeOf189
  v146 := Tryz.zeroValue189
  g1 := by kernel_rfl }
open Go.RowKit Go.Lib in
/-- strings.Contains: "Contains reports whether substr is within s.": IT RETURNS 'Lib.contains s substr'; the world is as it was. (LAID: no walk: one application.) -/
theorem Tryz.strings_Contains (s sub : ByteArray) (m : Int) (w : World) (hs : s.size < 4294967281) (hm : w.cell? ⟨0, 0, none⟩ = some (.int .i64 m)) :
    Calls Tryz.prog 24 #[.string s, .string sub] w fun e w' => e = .returned (.bool (Lib.contains s.data.toList sub.data.toList)) ∧ w' = w := Any.strings_Contains Tryz.lays144 s sub m w hs hm
def Tryz.lays145_ren : Go.Shelf.Ren := ⟨fun | 145 => 134 | 220 => 150 | 219 => 74 | 217 => 98 | 225 => 99 | 224 => 100 | 267 => 101 | 266 => 121 | 314 => 122 | n => n, fun | 9 => 9 | 4 => 4 | 59 => 201 | 3 => 3 | 5 => 5 | 46 => 170 | 146 => 189 | 51 => 96 | n => n, fun | 1 => 0 | n => n⟩
theorem Tryz.lays145 : Go.Proofs.Lays.n145 Tryz.prog Tryz.lays145_ren := {
  mixed := by kernel_rfl
  f145 := Tryz.func134.trans (congrArg some (by kernel_rfl))
  f217 := Tryz.func98.trans (congrArg some (by kernel_rfl))
  f219 := Tryz.func74.trans (congrArg some (by kernel_rfl))
  f220 := Tryz.func150.trans (congrArg some (by kernel_rfl))
  f224 := Tryz.func100.trans (congrArg some (by kernel_rfl))
  f225 := Tryz.func99.trans (congrArg some (by kernel_rfl))
  f266 := Tryz.func121.trans (congrArg some (by kernel_rfl))
  f267 := Tryz.func101.trans (congrArg some (by kernel_rfl))
  f314 := Tryz.func122.trans (congrArg some (by kernel_rfl))
  t3 := Tryz.underlying3
  a3 := Tryz.isAgg3
  z3 := Tryz.sizeOf3
  v3 := Tryz.zeroValue3
  t4 := Tryz.underlying4
  a4 := Tryz.isAgg4
  z4 := Tryz.sizeOf4
  v4 := Tryz.zeroValue4
  t5 := Tryz.underlying5
  a5 := Tryz.isAgg5
  z5 := Tryz.sizeOf5
  v5 := Tryz.zeroValue5
  t9 := Tryz.underlying9
  a9 := Tryz.isAgg9
  z9 := Tryz.sizeOf9
  v9 := Tryz.zeroValue9
  t46 := Tryz.underlying170
  a46 := Tryz.isAgg170
  z46 := Tryz.sizeOf170
  v46 := Tryz.zeroValue170
  t51 := Tryz.underlying96
  a51 := Tryz.isAgg96
  z51 := Tryz.sizeOf96
  v51 := Tryz.zeroValue96
  t59 := Tryz.underlying201
  a59 := Tryz.isAgg201
  z59 := Tryz.sizeOf201
  v59 := Tryz.zeroValue201
  t146 := Tryz.underlying189
  a146 := Tryz.isAgg189
  z146 := Tryz.sizeOf189
  v146 := Tryz.zeroValue189
  g1 := by kernel_rfl }
open Go.RowKit Go.Lib in
/-- strings.Cut: "Cut slices s around the first instance of sep, returning the text before and after sep. The found result reports whether sep appears in s. If sep does not appear in s, cut returns s, "", false.": IT RETURNS 'Lib.cut s sep'; the world is as it was but for the count of draws. (LAID: no walk: one application.) -/
theorem Tryz.strings_Cut (s sep : ByteArray) (m : Int) (w : World) (hs : s.size < 4294967281) (hm : w.cell? ⟨0, 0, none⟩ = some (.int .i64 m)) :
    Calls Tryz.prog 134 #[.string s, .string sep] w fun e w' => e = .returned (.tuple #[.string ⟨(Lib.cut s.data.toList sep.data.toList).1.toArray⟩, .string ⟨(Lib.cut s.data.toList sep.data.toList).2.1.toArray⟩, .bool (Lib.cut s.data.toList sep.data.toList).2.2]) ∧ ∃ n, w' = w.drewN n := Any.strings_Cut Tryz.lays145 s sep m w hs hm
def Tryz.laysGw17_ren : Go.Shelf.Ren := ⟨fun | 17 => 126 | 15 => 144 | 20 => 162 | n => n, fun | 9 => 9 | 23 => 195 | 4 => 4 | 3 => 3 | 0 => 0 | 21 => 21 | n => n, fun | n => n⟩
theorem Tryz.laysGw17 : Go.Proofs.LaysGw.n17 Tryz.prog Tryz.laysGw17_ren := {
  mixed := by kernel_rfl
  f15 := Tryz.func144.trans (congrArg some (by kernel_rfl))
  f17 := Tryz.func126.trans (congrArg some (by kernel_rfl))
  f20 := Tryz.func162.trans (congrArg some (by kernel_rfl))
  t0 := Tryz.underlying0
  a0 := Tryz.isAgg0
  z0 := Tryz.sizeOf0
  v0 := Tryz.zeroValue0
  i0 := by kernel_rfl
  t3 := Tryz.underlying3
  a3 := Tryz.isAgg3
  z3 := Tryz.sizeOf3
  v3 := Tryz.zeroValue3
  i3 := by kernel_rfl
  t4 := Tryz.underlying4
  a4 := Tryz.isAgg4
  z4 := Tryz.sizeOf4
  v4 := Tryz.zeroValue4
  i4 := by kernel_rfl
  t9 := Tryz.underlying9
  a9 := Tryz.isAgg9
  z9 := Tryz.sizeOf9
  v9 := Tryz.zeroValue9
  i9 := by kernel_rfl
  t21 := Tryz.underlying21
  a21 := Tryz.isAgg21
  z21 := Tryz.sizeOf21
  v21 := Tryz.zeroValue21
  i21 := by kernel_rfl
  t23 := Tryz.underlying195
  a23 := Tryz.isAgg195
  z23 := Tryz.sizeOf195
  v23 := Tryz.zeroValue195
  i23 := by kernel_rfl }
open Go.RowKit Go.Lib in
theorem Tryz.strings_ContainsFunc_runes (g : Nat) (lb : Array Value) (eg : ∀ args w, (callFunc g args).run Tryz.prog w = .ok (.enter g args) w) (p : Nat → Bool) (s : ByteArray) (w : World) (hp : PredAtRunes Tryz.prog g lb p w) :
    Calls Tryz.prog 126 #[.string s, .func (.func g) #[] lb] w fun e w' => e = .returned (.bool (decide (0 ≤ Lib.idxFunc p true s))) ∧ Below w.heap.size w w' := Any.strings_ContainsFunc_runes Tryz.laysGw17 g lb eg p s w hp
def Tryz.lays164_ren : Go.Shelf.Ren := ⟨fun | 164 => 130 | 197 => 72 | 239 => 146 | 260 => 97 | 274 => 163 | 275 => 164 | n => n, fun | 9 => 9 | 4 => 4 | 3 => 3 | 5 => 5 | 0 => 0 | 21 => 21 | 105 => 145 | 156 => 234 | 49 => 233 | 157 => 235 | 46 => 170 | 159 => 237 | 162 => 231 | 160 => 238 | 119 => 185 | 139 => 188 | 138 => 187 | 208 => 253 | 51 => 96 | 206 => 251 | n => n, fun | 11 => 4 | 12 => 5 | 13 => 3 | 3 => 1 | 4 => 2 | n => n⟩
theorem Tryz.lays164 : Go.Proofs.Lays.n164 Tryz.prog Tryz.lays164_ren := {
  mixed := by kernel_rfl
  f164 := Tryz.func130.trans (congrArg some (by kernel_rfl))
  f197 := Tryz.func72.trans (congrArg some (by kernel_rfl))
  f239 := Tryz.func146.trans (congrArg some (by kernel_rfl))
  f260 := Tryz.func97.trans (congrArg some (by kernel_rfl))
  f274 := Tryz.func163.trans (congrArg some (by kernel_rfl))
  f275 := Tryz.func164.trans (congrArg some (by kernel_rfl))
  t0 := Tryz.underlying0
  a0 := Tryz.isAgg0
  z0 := Tryz.sizeOf0
  v0 := Tryz.zeroValue0
  t3 := Tryz.underlying3
  a3 := Tryz.isAgg3
  z3 := Tryz.sizeOf3
  v3 := Tryz.zeroValue3
  t4 := Tryz.underlying4
  a4 := Tryz.isAgg4
  z4 := Tryz.sizeOf4
  v4 := Tryz.zeroValue4
  t5 := Tryz.underlying5
  a5 := Tryz.isAgg5
  z5 := Tryz.sizeOf5
  v5 := Tryz.zeroValue5
  t9 := Tryz.underlying9
  a9 := Tryz.isAgg9
  z9 := Tryz.sizeOf9
  v9 := Tryz.zeroValue9
  t21 := Tryz.underlying21
  a21 := Tryz.isAgg21
  z21 := Tryz.sizeOf21
  v21 := Tryz.zeroValue21
  t46 := Tryz.underlying170
  a46 := Tryz.isAgg170
  z46 := Tryz.sizeOf170
  v46 := Tryz.zeroValue170
  t49 := Tryz.underlying233
  a49 := Tryz.isAgg233
  z49 := Tryz.sizeOf233
  v49 := Tryz.zeroValue233
  t51 := Tryz.underlying96
  a51 := Tryz.isAgg96
  z51 := Tryz.sizeOf96
  v51 := Tryz.zeroValue96
  t105 := Tryz.underlying145
  a105 := Tryz.isAgg145
  z105 := Tryz.sizeOf145
  v105 := Tryz.zeroValue145
  t119 := Tryz.underlying185
  a119 := Tryz.isAgg185
  z119 := Tryz.sizeOf185
  t138 := Tryz.underlying187
  a138 := Tryz.isAgg187
  z138 := Tryz.sizeOf187
  v138 := Tryz.zeroValue187
  t139 := Tryz.underlying188
  a139 := Tryz.isAgg188
  z139 := Tryz.sizeOf188
  v139 := Tryz.zeroValue188
  t156 := Tryz.underlying234
  a156 := Tryz.isAgg234
  z156 := Tryz.sizeOf234
  t157 := Tryz.underlying235
  a157 := Tryz.isAgg235
  z157 := Tryz.sizeOf235
  v157 := Tryz.zeroValue235
  t159 := Tryz.underlying237
  a159 := Tryz.isAgg237
  z159 := Tryz.sizeOf237
  v159 := Tryz.zeroValue237
  t160 := Tryz.underlying238
  a160 := Tryz.isAgg238
  z160 := Tryz.sizeOf238
  v160 := Tryz.zeroValue238
  t162 := Tryz.underlying231
  a162 := Tryz.isAgg231
  z162 := Tryz.sizeOf231
  v162 := Tryz.zeroValue231
  t206 := Tryz.underlying251
  a206 := Tryz.isAgg251
  z206 := Tryz.sizeOf251
  v206 := Tryz.zeroValue251
  t208 := Tryz.underlying253
  a208 := Tryz.isAgg253
  z208 := Tryz.sizeOf253
  v208 := Tryz.zeroValue253
  g3 := by kernel_rfl
  g4 := by kernel_rfl
  g11 := by kernel_rfl
  g12 := by kernel_rfl
  g13 := by kernel_rfl }
open Go.RowKit Go.Lib in
theorem Tryz.strings_EqualFold (s t : ByteArray) (w : World) (hs : s.size < 4294967281) (has : ∀ (j : Nat) b, s.data.toList[j]? = some b → b.toNat < 128) (hat : ∀ (j : Nat) b, t.data.toList[j]? = some b → b.toNat < 128) :
    Calls Tryz.prog 130 #[.string s, .string t] w fun e w' => e = .returned (.bool (Lib.equalFold s.data.toList t.data.toList)) ∧ w' = w := Any.strings_EqualFold Tryz.lays164 s t w hs has hat
def Tryz.lays150_ren : Go.Shelf.Ren := ⟨fun | 150 => 139 | 153 => 159 | 152 => 183 | 226 => 184 | 227 => 153 | 228 => 172 | 137 => 91 | 119 => 194 | 224 => 100 | 225 => 99 | 217 => 98 | 266 => 121 | n => n, fun | 9 => 9 | 4 => 4 | 3 => 3 | 5 => 5 | 21 => 21 | 117 => 223 | 116 => 222 | 0 => 0 | 46 => 170 | 124 => 226 | n => n, fun | n => n⟩
theorem Tryz.lays150 : Go.Proofs.Lays.n150 Tryz.prog Tryz.lays150_ren := {
  mixed := by kernel_rfl
  f119 := Tryz.func194.trans (congrArg some (by kernel_rfl))
  f137 := Tryz.func91.trans (congrArg some (by kernel_rfl))
  f150 := Tryz.func139.trans (congrArg some (by kernel_rfl))
  f152 := Tryz.func183.trans (congrArg some (by kernel_rfl))
  f153 := Tryz.func159.trans (congrArg some (by kernel_rfl))
  f217 := Tryz.func98.trans (congrArg some (by kernel_rfl))
  f224 := Tryz.func100.trans (congrArg some (by kernel_rfl))
  f225 := Tryz.func99.trans (congrArg some (by kernel_rfl))
  f226 := Tryz.func184.trans (congrArg some (by kernel_rfl))
  f227 := Tryz.func153.trans (congrArg some (by kernel_rfl))
  f228 := Tryz.func172.trans (congrArg some (by kernel_rfl))
  f266 := Tryz.func121.trans (congrArg some (by kernel_rfl))
  t0 := Tryz.underlying0
  a0 := Tryz.isAgg0
  z0 := Tryz.sizeOf0
  v0 := Tryz.zeroValue0
  t3 := Tryz.underlying3
  a3 := Tryz.isAgg3
  z3 := Tryz.sizeOf3
  v3 := Tryz.zeroValue3
  t4 := Tryz.underlying4
  a4 := Tryz.isAgg4
  z4 := Tryz.sizeOf4
  v4 := Tryz.zeroValue4
  t5 := Tryz.underlying5
  a5 := Tryz.isAgg5
  z5 := Tryz.sizeOf5
  v5 := Tryz.zeroValue5
  t9 := Tryz.underlying9
  a9 := Tryz.isAgg9
  z9 := Tryz.sizeOf9
  v9 := Tryz.zeroValue9
  t21 := Tryz.underlying21
  a21 := Tryz.isAgg21
  z21 := Tryz.sizeOf21
  v21 := Tryz.zeroValue21
  t46 := Tryz.underlying170
  a46 := Tryz.isAgg170
  z46 := Tryz.sizeOf170
  v46 := Tryz.zeroValue170
  t116 := Tryz.underlying222
  a116 := Tryz.isAgg222
  z116 := Tryz.sizeOf222
  t117 := Tryz.underlying223
  a117 := Tryz.isAgg223
  z117 := Tryz.sizeOf223
  v117 := Tryz.zeroValue223
  t124 := Tryz.underlying226
  a124 := Tryz.isAgg226
  z124 := Tryz.sizeOf226
  v124 := Tryz.zeroValue226 }
open Go.RowKit Go.Lib in
theorem Tryz.strings_ContainsAny_laid (s chars : ByteArray) (w : World) (hs : s.size < 4294967281) (hcs : chars.size < 4294967281) (has : ∀ (j : Nat) b, s.data.toList[j]? = some b → b.toNat < 128) (hac : ∀ (j : Nat) b, chars.data.toList[j]? = some b → b.toNat < 128) :
    Calls Tryz.prog 139 #[.string s, .string chars] w fun e w' => e = .returned (.bool (Lib.containsAny s.data.toList chars.data.toList)) ∧ Below w.heap.size w w' := Any.strings_ContainsAny_laid Tryz.lays150 (by kernel_rfl) s chars w hs hcs has hac
def Tryz.lays197_ren : Go.Shelf.Ren := ⟨fun | 197 => 72 | 260 => 97 | n => n, fun | 9 => 9 | 21 => 21 | 3 => 3 | 4 => 4 | 5 => 5 | 105 => 145 | 119 => 185 | 0 => 0 | 46 => 170 | 139 => 188 | 138 => 187 | n => n, fun | 3 => 1 | 4 => 2 | n => n⟩
theorem Tryz.lays197 : Go.Proofs.Lays.n197 Tryz.prog Tryz.lays197_ren := {
  mixed := by kernel_rfl
  f197 := Tryz.func72.trans (congrArg some (by kernel_rfl))
  f260 := Tryz.func97.trans (congrArg some (by kernel_rfl))
  t0 := Tryz.underlying0
  a0 := Tryz.isAgg0
  z0 := Tryz.sizeOf0
  v0 := Tryz.zeroValue0
  t3 := Tryz.underlying3
  a3 := Tryz.isAgg3
  z3 := Tryz.sizeOf3
  v3 := Tryz.zeroValue3
  t4 := Tryz.underlying4
  a4 := Tryz.isAgg4
  z4 := Tryz.sizeOf4
  v4 := Tryz.zeroValue4
  t5 := Tryz.underlying5
  a5 := Tryz.isAgg5
  z5 := Tryz.sizeOf5
  v5 := Tryz.zeroValue5
  t9 := Tryz.underlying9
  a9 := Tryz.isAgg9
  z9 := Tryz.sizeOf9
  v9 := Tryz.zeroValue9
  t21 := Tryz.underlying21
  a21 := Tryz.isAgg21
  z21 := Tryz.sizeOf21
  v21 := Tryz.zeroValue21
  t46 := Tryz.underlying170
  a46 := Tryz.isAgg170
  z46 := Tryz.sizeOf170
  v46 := Tryz.zeroValue170
  t105 := Tryz.underlying145
  a105 := Tryz.isAgg145
  z105 := Tryz.sizeOf145
  v105 := Tryz.zeroValue145
  t119 := Tryz.underlying185
  a119 := Tryz.isAgg185
  z119 := Tryz.sizeOf185
  t138 := Tryz.underlying187
  a138 := Tryz.isAgg187
  z138 := Tryz.sizeOf187
  v138 := Tryz.zeroValue187
  t139 := Tryz.underlying188
  a139 := Tryz.isAgg188
  z139 := Tryz.sizeOf188
  v139 := Tryz.zeroValue188
  g3 := by kernel_rfl
  g4 := by kernel_rfl }
open Go.RowKit Go.Lib in
/-- **unicode/utf8.DecodeRuneInString AT EVERY STRING.** (LAID: no walk: one application.) -/
theorem Tryz.utf8_DecodeRuneInString (s : ByteArray) (w : World) (hT : Lib.Utf8Tabs 1 2 w) :
    Calls Tryz.prog 72 #[.string s] w fun e w' => e = .returned (.tuple #[.int .i32 (Lib.decodeGo s).1, .int .i64 (Lib.decodeGo s).2]) ∧ Below w.heap.size w w' := Any.utf8_DecodeRuneInString Tryz.lays197 s w hT
def Tryz.lays271_ren : Go.Shelf.Ren := ⟨fun | 271 => 128 | 120 => 145 | 197 => 72 | 260 => 97 | n => n, fun | 9 => 9 | 21 => 21 | 3 => 3 | 4 => 4 | 5 => 5 | 105 => 145 | 119 => 185 | 0 => 0 | 46 => 170 | 139 => 188 | 138 => 187 | n => n, fun | 3 => 1 | 4 => 2 | n => n⟩
theorem Tryz.lays271 : Go.Proofs.Lays.n271 Tryz.prog Tryz.lays271_ren := {
  mixed := by kernel_rfl
  f120 := Tryz.func145.trans (congrArg some (by kernel_rfl))
  f197 := Tryz.func72.trans (congrArg some (by kernel_rfl))
  f260 := Tryz.func97.trans (congrArg some (by kernel_rfl))
  f271 := Tryz.func128.trans (congrArg some (by kernel_rfl))
  t0 := Tryz.underlying0
  a0 := Tryz.isAgg0
  z0 := Tryz.sizeOf0
  v0 := Tryz.zeroValue0
  t3 := Tryz.underlying3
  a3 := Tryz.isAgg3
  z3 := Tryz.sizeOf3
  v3 := Tryz.zeroValue3
  t4 := Tryz.underlying4
  a4 := Tryz.isAgg4
  z4 := Tryz.sizeOf4
  v4 := Tryz.zeroValue4
  t5 := Tryz.underlying5
  a5 := Tryz.isAgg5
  z5 := Tryz.sizeOf5
  v5 := Tryz.zeroValue5
  t9 := Tryz.underlying9
  a9 := Tryz.isAgg9
  z9 := Tryz.sizeOf9
  v9 := Tryz.zeroValue9
  t21 := Tryz.underlying21
  a21 := Tryz.isAgg21
  z21 := Tryz.sizeOf21
  v21 := Tryz.zeroValue21
  t46 := Tryz.underlying170
  a46 := Tryz.isAgg170
  z46 := Tryz.sizeOf170
  v46 := Tryz.zeroValue170
  t105 := Tryz.underlying145
  a105 := Tryz.isAgg145
  z105 := Tryz.sizeOf145
  v105 := Tryz.zeroValue145
  t119 := Tryz.underlying185
  a119 := Tryz.isAgg185
  z119 := Tryz.sizeOf185
  t138 := Tryz.underlying187
  a138 := Tryz.isAgg187
  z138 := Tryz.sizeOf187
  v138 := Tryz.zeroValue187
  t139 := Tryz.underlying188
  a139 := Tryz.isAgg188
  z139 := Tryz.sizeOf188
  v139 := Tryz.zeroValue188
  g3 := by kernel_rfl
  g4 := by kernel_rfl }
open Go.RowKit Go.Lib in
/-- **unicode/utf8.DecodeLastRuneInString AT EVERY STRING.** (LAID: no walk: one application.) -/
theorem Tryz.utf8_DecodeLastRuneInString (s : ByteArray) (w : World) (hs : s.size ≤ 9223372036854775807) (hT : Lib.Utf8Tabs 1 2 w) :
    Calls Tryz.prog 128 #[.string s] w fun e w' => e = .returned (.tuple #[.int .i32 (Lib.decodeLastL s.data.toList).1, .int .i64 (Lib.decodeLastL s.data.toList).2]) ∧ Below w.heap.size w w' := Any.utf8_DecodeLastRuneInString Tryz.lays271 s w hs hT
open Go.RowKit Go.Lib in
/-- **strings.ToLower AT EVERY STRING, VALID UTF-8 OR NOT.** (LAID: no walk: one application.) -/
theorem Tryz.strings_ToLower_any (s : ByteArray) (w : World) (hs : s.size < 35184372088832) (hV : CaseVar 3 caseA w) (hT : Lib.Utf8Tabs 1 2 w) :
    Calls Tryz.prog 104 #[.string s] w fun e w' => e = .returned (.string ⟨(Lib.toLowerD s.data.toList).toArray⟩) ∧ Below w.heap.size w w' := Any.strings_ToLower_any Tryz.lays159 Tryz.Builder_Extra_159 s w hs hV hT
end Go.Proofs

