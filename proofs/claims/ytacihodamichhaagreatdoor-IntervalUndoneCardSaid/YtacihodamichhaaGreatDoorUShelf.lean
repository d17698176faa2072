/-
  The library contracts that the proof takes, laid at this program (printed by the kit, in plain words; cut down to what is used).
-/
import Derived.Shelf.Strings.Builder1
import Derived.Shelf.Strings.Builder2
import Derived.Shelf.Strings.OnBuilder
import Derived.Shelf.Strings.Trim
import Derived.Shelf.Small.Utf8
import Derived.Shelf.Small.Bits
import Derived.Shelf.Small.Strs
import Derived.Shelf.Small.Wraps
import Derived.Shelf.Strings.BuilderF
import Derived.Shelf.Strconv.Itoa0
import Derived.Shelf.Strconv.Itoa1
import Derived.Shelf.LaysM
import Derived.Shelf.Strconv.Itoa2
import Derived.Shelf.Strconv.Itoa3
import Derived.Shelf.Strconv.Clone
import Derived.Shelf.Strconv.Lower
import Derived.Shelf.Strconv.ParseUint10
import Derived.Shelf.Strconv.ParseUintEmpty
import Derived.Shelf.Strconv.ParseUint10b64
import Derived.Shelf.Strconv.ParseUint10b32
import Derived.Shelf.Strconv.ParseUint10b16
import Derived.Shelf.Strconv.ParseUint10b8
import Derived.Shelf.Strconv.ParseUint10At
import Derived.Ground.MpProg
import Derived.Shelf.Pu.ParseUintPublic10
import Derived.Shelf.Strings.Search1
import Derived.Shelf.Strings.Search2
import Derived.Shelf.Strings.Cut
import Derived.Shelf.Strings.Shaped
import Derived.Shelf.GgClosure.StringsIndexFunc
import Derived.Ground.GgwProg
import Derived.Shelf.GgClosure.StringsIndexFuncTop
import Derived.Shelf.GgClosure.StringsRunes
import Derived.Shelf.Strings.Prefix
import Derived.Shelf.Unicode.Decode
import Derived.Shelf.Strings.Runes
import Derived.Shelf.Strings.AsciiSet
import Derived.Shelf.Bits.Mul64
import Derived.Shelf.Strings.Repeat
import Derived.Shelf.Unicode.DecodeSlow
import Derived.Shelf.Unicode.DecodeAny
import Derived.Shelf.Unicode.DecodeLast
import Derived.Shelf.Strings.FuncGrows
import Derived.Ground.Names2Prog
import Derived.Shelf.Slices.ReverseS
import Derived.Shelf.Slices.SearchI
import Derived.Shelf.Slices.Cells
import Derived.Ground.SlgnProg
import Derived.Shelf.SlicesE.Clone
import Derived.Shelf.SlSortCmp.WholeK
import Derived.Shelf.SlSortCmp.NoneTotal
import Derived.Shelf.Spec.SlicesGrow
import Derived.Ground.SlsfProg
import Derived.Ground.Names8Prog
import Derived.Test.YtacihodamichhaaGreatDoorProg
namespace Go.Proofs
open Go.Shelf
def Tryz.lays156_ren : Go.Shelf.Ren := ⟨fun | 156 => 151 | 165 => 178 | 166 => 179 | 169 => 181 | 240 => 217 | 241 => 218 | 276 => 237 | 277 => 238 | n => n, fun | 31 => 164 | 9 => 9 | 3 => 3 | 4 => 4 | 0 => 0 | 20 => 20 | 72 => 198 | 76 => 202 | 70 => 196 | 37 => 175 | 75 => 201 | 127 => 236 | 164 => 252 | 5 => 5 | 80 => 131 | n => n, fun | n => n⟩
theorem Tryz.lays156 : Go.Proofs.Lays.n156 Tryz.prog Tryz.lays156_ren := {
  mixed := by kernel_rfl
  f156 := Tryz.func151.trans (congrArg some (by kernel_rfl))
  f165 := Tryz.func178.trans (congrArg some (by kernel_rfl))
  f166 := Tryz.func179.trans (congrArg some (by kernel_rfl))
  f169 := Tryz.func181.trans (congrArg some (by kernel_rfl))
  f240 := Tryz.func217.trans (congrArg some (by kernel_rfl))
  f241 := Tryz.func218.trans (congrArg some (by kernel_rfl))
  f276 := Tryz.func237.trans (congrArg some (by kernel_rfl))
  f277 := Tryz.func238.trans (congrArg some (by kernel_rfl))
  t0 := Tryz.underlying0
  a0 := Tryz.isAgg0
  z0 := Tryz.sizeOf0
  v0 := Tryz.zeroValue0
  t3 := Tryz.underlying3
  a3 := Tryz.isAgg3
  z3 := Tryz.sizeOf3
  v3 := Tryz.zeroValue3
  t4 := Tryz.underlying4
  a4 := Tryz.isAgg4
  z4 := Tryz.sizeOf4
  v4 := Tryz.zeroValue4
  t9 := Tryz.underlying9
  a9 := Tryz.isAgg9
  z9 := Tryz.sizeOf9
  v9 := Tryz.zeroValue9
  t20 := Tryz.underlying20
  a20 := Tryz.isAgg20
  z20 := Tryz.sizeOf20
  v20 := Tryz.zeroValue20
  t31 := Tryz.underlying164
  a31 := Tryz.isAgg164
  z31 := Tryz.sizeOf164
  v31 := Tryz.zeroValue164
  t37 := Tryz.underlying175
  a37 := Tryz.isAgg175
  z37 := Tryz.sizeOf175
  v37 := Tryz.zeroValue175
  t70 := Tryz.underlying196
  a70 := Tryz.isAgg196
  z70 := Tryz.sizeOf196
  v70 := Tryz.zeroValue196
  t72 := Tryz.underlying198
  a72 := Tryz.isAgg198
  z72 := Tryz.sizeOf198
  v72 := Tryz.zeroValue198
  t75 := Tryz.underlying201
  a75 := Tryz.isAgg201
  z75 := Tryz.sizeOf201
  v75 := Tryz.zeroValue201
  t76 := Tryz.underlying202
  a76 := Tryz.isAgg202
  z76 := Tryz.sizeOf202
  v76 := Tryz.zeroValue202
  t127 := Tryz.underlying236
  a127 := Tryz.isAgg236
  z127 := Tryz.sizeOf236
  v127 := Tryz.zeroValue236
  t164 := Tryz.underlying252
  a164 := Tryz.isAgg252
  z164 := Tryz.sizeOf252
  v164 := Tryz.zeroValue252 }
theorem Tryz.Builder_Extra_156 : Builder.Extra Tryz.prog Tryz.lays156_ren := {
  sizeBuilder := by kernel_rfl
  liesBuilder := by kernel_rfl
  t5 := Tryz.underlying5
  a5 := Tryz.isAgg5
  z5 := Tryz.sizeOf5
  v5 := Tryz.zeroValue5
  infoByte := by kernel_rfl
  cellsByte := by kernel_rfl
  sizeByte := by kernel_rfl
  neB5 := by decide }
open Go.RowKit in
theorem Tryz.strings_Join (bk o c : Nat) (xs : List ByteArray) (sep : ByteArray) (w : World) (hcells : ∀ (j : Nat) x, xs[j]? = some x → w.cell? ⟨bk, o + j, none⟩ = some (.string x)) (hbk : bk < w.heap.size) (hN : xs.length ≤ 140737488355328) (hcap : xs.length ≤ c) (hlen : (Lib.join (xs.map (·.data.toList)) sep.data.toList).length ≤ 140737488355328) :
    Calls Tryz.prog 151 #[.slice (some ⟨bk, o, none⟩) xs.length c, .string sep] w fun e w' => e = .returned (.string ⟨(Lib.join (xs.map (·.data.toList)) sep.data.toList).toArray⟩) ∧ Below w.heap.size w w' := Any.strings_Join Tryz.lays156 Tryz.Builder_Extra_156 bk o c xs sep w hcells hbk hN hcap hlen
def Tryz.lays160_ren : Go.Shelf.Ren := ⟨fun | 160 => 155 | 232 => 185 | 231 => 184 | 227 => 186 | 234 => 188 | 233 => 187 | 236 => 190 | 235 => 189 | 228 => 220 | 271 => 223 | 151 => 222 | 197 => 221 | 120 => 245 | 152 => 244 | 260 => 243 | 137 => 260 | 119 => 261 | 224 => 241 | 225 => 240 | 217 => 239 | 266 => 258 | n => n, fun | 9 => 9 | 4 => 4 | 3 => 3 | 5 => 5 | 117 => 207 | 116 => 206 | 0 => 0 | 124 => 210 | 21 => 21 | 105 => 238 | 46 => 145 | 119 => 268 | 139 => 271 | 138 => 270 | n => n, fun | 3 => 2 | 4 => 3 | n => n⟩
theorem Tryz.lays160 : Go.Proofs.Lays.n160 Tryz.prog Tryz.lays160_ren := {
  mixed := by kernel_rfl
  f119 := Tryz.func261.trans (congrArg some (by kernel_rfl))
  f120 := Tryz.func245.trans (congrArg some (by kernel_rfl))
  f137 := Tryz.func260.trans (congrArg some (by kernel_rfl))
  f151 := Tryz.func222.trans (congrArg some (by kernel_rfl))
  f152 := Tryz.func244.trans (congrArg some (by kernel_rfl))
  f160 := Tryz.func155.trans (congrArg some (by kernel_rfl))
  f197 := Tryz.func221.trans (congrArg some (by kernel_rfl))
  f217 := Tryz.func239.trans (congrArg some (by kernel_rfl))
  f224 := Tryz.func241.trans (congrArg some (by kernel_rfl))
  f225 := Tryz.func240.trans (congrArg some (by kernel_rfl))
  f227 := Tryz.func186.trans (congrArg some (by kernel_rfl))
  f228 := Tryz.func220.trans (congrArg some (by kernel_rfl))
  f231 := Tryz.func184.trans (congrArg some (by kernel_rfl))
  f232 := Tryz.func185.trans (congrArg some (by kernel_rfl))
  f233 := Tryz.func187.trans (congrArg some (by kernel_rfl))
  f234 := Tryz.func188.trans (congrArg some (by kernel_rfl))
  f235 := Tryz.func189.trans (congrArg some (by kernel_rfl))
  f236 := Tryz.func190.trans (congrArg some (by kernel_rfl))
  f260 := Tryz.func243.trans (congrArg some (by kernel_rfl))
  f266 := Tryz.func258.trans (congrArg some (by kernel_rfl))
  f271 := Tryz.func223.trans (congrArg some (by kernel_rfl))
  t0 := Tryz.underlying0
  a0 := Tryz.isAgg0
  z0 := Tryz.sizeOf0
  v0 := Tryz.zeroValue0
  t3 := Tryz.underlying3
  a3 := Tryz.isAgg3
  z3 := Tryz.sizeOf3
  v3 := Tryz.zeroValue3
  t4 := Tryz.underlying4
  a4 := Tryz.isAgg4
  z4 := Tryz.sizeOf4
  v4 := Tryz.zeroValue4
  t5 := Tryz.underlying5
  a5 := Tryz.isAgg5
  z5 := Tryz.sizeOf5
  v5 := Tryz.zeroValue5
  t9 := Tryz.underlying9
  a9 := Tryz.isAgg9
  z9 := Tryz.sizeOf9
  v9 := Tryz.zeroValue9
  t21 := Tryz.underlying21
  a21 := Tryz.isAgg21
  z21 := Tryz.sizeOf21
  v21 := Tryz.zeroValue21
  t46 := Tryz.underlying145
  a46 := Tryz.isAgg145
  z46 := Tryz.sizeOf145
  v46 := Tryz.zeroValue145
  t105 := Tryz.underlying238
  a105 := Tryz.isAgg238
  z105 := Tryz.sizeOf238
  v105 := Tryz.zeroValue238
  t116 := Tryz.underlying206
  a116 := Tryz.isAgg206
  z116 := Tryz.sizeOf206
  t117 := Tryz.underlying207
  a117 := Tryz.isAgg207
  z117 := Tryz.sizeOf207
  v117 := Tryz.zeroValue207
  t119 := Tryz.underlying268
  a119 := Tryz.isAgg268
  z119 := Tryz.sizeOf268
  t124 := Tryz.underlying210
  a124 := Tryz.isAgg210
  z124 := Tryz.sizeOf210
  v124 := Tryz.zeroValue210
  t138 := Tryz.underlying270
  a138 := Tryz.isAgg270
  z138 := Tryz.sizeOf270
  v138 := Tryz.zeroValue270
  t139 := Tryz.underlying271
  a139 := Tryz.isAgg271
  z139 := Tryz.sizeOf271
  v139 := Tryz.zeroValue271
  g3 := by kernel_rfl
  g4 := by kernel_rfl }
def Tryz.lays133_ren : Go.Shelf.Ren := ⟨fun | 133 => 209 | 128 => 168 | n => n, fun | 51 => 62 | 3 => 3 | 4 => 4 | 46 => 145 | 5 => 5 | 9 => 9 | n => n, fun | n => n⟩
theorem Tryz.lays133 : Go.Proofs.Lays.n133 Tryz.prog Tryz.lays133_ren := {
  mixed := by kernel_rfl
  f128 := Tryz.func168.trans (congrArg some (by kernel_rfl))
  f133 := Tryz.func209.trans (congrArg some (by kernel_rfl))
  t3 := Tryz.underlying3
  a3 := Tryz.isAgg3
  z3 := Tryz.sizeOf3
  v3 := Tryz.zeroValue3
  t4 := Tryz.underlying4
  a4 := Tryz.isAgg4
  z4 := Tryz.sizeOf4
  v4 := Tryz.zeroValue4
  t5 := Tryz.underlying5
  a5 := Tryz.isAgg5
  z5 := Tryz.sizeOf5
  v5 := Tryz.zeroValue5
  t9 := Tryz.underlying9
  a9 := Tryz.isAgg9
  z9 := Tryz.sizeOf9
  v9 := Tryz.zeroValue9
  t46 := Tryz.underlying145
  a46 := Tryz.isAgg145
  z46 := Tryz.sizeOf145
  v46 := Tryz.zeroValue145
  t51 := Tryz.underlying62
  a51 := Tryz.isAgg62
  z51 := Tryz.sizeOf62
  v51 := Tryz.zeroValue62 }
theorem Tryz.bits_LeadingZeros32 (x : Int) (w : World) (h0 : 0 ≤ x) (h1 : x ≤ 4294967295) :
    Calls Tryz.prog 209 #[.int .u32 x] w fun e w' => e = .returned (.int .i64 (32 - (Lib.bitLen x.toNat : Int))) ∧ w' = w := Any.bits_LeadingZeros32 Tryz.lays133 x w h0 h1
def Tryz.lays103_ren : Go.Shelf.Ren := ⟨fun | 103 => 191 | 210 => 224 | 206 => 216 | n => n, fun | 9 => 9 | 4 => 4 | 24 => 211 | 3 => 3 | n => n, fun | n => n⟩
theorem Tryz.lays103 : Go.Proofs.Lays.n103 Tryz.prog Tryz.lays103_ren := {
  mixed := by kernel_rfl
  f103 := Tryz.func191.trans (congrArg some (by kernel_rfl))
  f206 := Tryz.func216.trans (congrArg some (by kernel_rfl))
  f210 := Tryz.func224.trans (congrArg some (by kernel_rfl))
  t3 := Tryz.underlying3
  a3 := Tryz.isAgg3
  z3 := Tryz.sizeOf3
  v3 := Tryz.zeroValue3
  t4 := Tryz.underlying4
  a4 := Tryz.isAgg4
  z4 := Tryz.sizeOf4
  v4 := Tryz.zeroValue4
  t9 := Tryz.underlying9
  a9 := Tryz.isAgg9
  z9 := Tryz.sizeOf9
  v9 := Tryz.zeroValue9
  t24 := Tryz.underlying211
  a24 := Tryz.isAgg211
  z24 := Tryz.sizeOf211
  v24 := Tryz.zeroValue211 }
open Go.RowKit in
theorem Tryz.strings_CutPrefix (s p : ByteArray) (w : World) :
    Calls Tryz.prog 191 #[.string s, .string p] w fun e w' => e = .returned (.tuple #[.string ⟨(Lib.trimPrefix s.data.toList p.data.toList).toArray⟩, .bool (Lib.hasPrefix s.data.toList p.data.toList)]) ∧ w' = w := Any.strings_CutPrefix Tryz.lays103 s p w
def Tryz.lays122_ren : Go.Shelf.Ren := ⟨fun | 122 => 124 | 215 => 159 | n => n, fun | 3 => 3 | 4 => 4 | n => n, fun | n => n⟩
theorem Tryz.lays122 : Go.Proofs.Lays.n122 Tryz.prog Tryz.lays122_ren := {
  mixed := by kernel_rfl
  f122 := Tryz.func124.trans (congrArg some (by kernel_rfl))
  f215 := Tryz.func159.trans (congrArg some (by kernel_rfl))
  t3 := Tryz.underlying3
  a3 := Tryz.isAgg3
  z3 := Tryz.sizeOf3
  v3 := Tryz.zeroValue3
  t4 := Tryz.underlying4
  a4 := Tryz.isAgg4
  z4 := Tryz.sizeOf4
  v4 := Tryz.zeroValue4 }
open Go.RowKit in
theorem Tryz.cmp_Compare_int (x y : Int) (w : World) :
    Calls Tryz.prog 124 #[.int .i64 x, .int .i64 y] w fun e w' => e = .returned (.int .i64 (Lib.compareInt x y)) ∧ w' = w := Any.cmp_Compare_int Tryz.lays122 x y w
def Tryz.laysM171_ren : Go.Shelf.Ren := ⟨fun | 171 => 148 | 243 => 175 | 246 => 213 | 283 => 233 | 284 => 234 | 285 => 235 | 286 => 236 | 129 => 169 | 317 => 254 | 318 => 255 | 319 => 256 | 320 => 257 | 337 => 264 | 338 => 265 | n => n, fun | 3 => 3 | 9 => 9 | 2 => 2 | 4 => 4 | 171 => 248 | 0 => 0 | 53 => 158 | 37 => 175 | 5 => 5 | 173 => 250 | 212 => 265 | 51 => 62 | 20 => 20 | 213 => 266 | 46 => 145 | 232 => 278 | 233 => 279 | n => n, fun | 17 => 1 | 18 => 6 | 19 => 7 | n => n⟩
theorem Tryz.laysM171 : Go.Proofs.LaysM.n171 Tryz.prog Tryz.laysM171_ren := {
  mixed := by kernel_rfl
  f129 := Tryz.func169.trans (congrArg some (by kernel_rfl))
  f171 := Tryz.func148.trans (congrArg some (by kernel_rfl))
  f243 := Tryz.func175.trans (congrArg some (by kernel_rfl))
  f246 := Tryz.func213.trans (congrArg some (by kernel_rfl))
  f283 := Tryz.func233.trans (congrArg some (by kernel_rfl))
  f284 := Tryz.func234.trans (congrArg some (by kernel_rfl))
  f285 := Tryz.func235.trans (congrArg some (by kernel_rfl))
  f286 := Tryz.func236.trans (congrArg some (by kernel_rfl))
  f317 := Tryz.func254.trans (congrArg some (by kernel_rfl))
  f318 := Tryz.func255.trans (congrArg some (by kernel_rfl))
  f319 := Tryz.func256.trans (congrArg some (by kernel_rfl))
  f320 := Tryz.func257.trans (congrArg some (by kernel_rfl))
  f337 := Tryz.func264.trans (congrArg some (by kernel_rfl))
  f338 := Tryz.func265.trans (congrArg some (by kernel_rfl))
  t0 := Tryz.underlying0
  a0 := Tryz.isAgg0
  z0 := Tryz.sizeOf0
  v0 := Tryz.zeroValue0
  t2 := Tryz.underlying2
  a2 := Tryz.isAgg2
  z2 := Tryz.sizeOf2
  v2 := Tryz.zeroValue2
  t3 := Tryz.underlying3
  a3 := Tryz.isAgg3
  z3 := Tryz.sizeOf3
  v3 := Tryz.zeroValue3
  t4 := Tryz.underlying4
  a4 := Tryz.isAgg4
  z4 := Tryz.sizeOf4
  v4 := Tryz.zeroValue4
  t5 := Tryz.underlying5
  a5 := Tryz.isAgg5
  z5 := Tryz.sizeOf5
  v5 := Tryz.zeroValue5
  t9 := Tryz.underlying9
  a9 := Tryz.isAgg9
  z9 := Tryz.sizeOf9
  v9 := Tryz.zeroValue9
  t20 := Tryz.underlying20
  a20 := Tryz.isAgg20
  z20 := Tryz.sizeOf20
  v20 := Tryz.zeroValue20
  t37 := Tryz.underlying175
  a37 := Tryz.isAgg175
  z37 := Tryz.sizeOf175
  v37 := Tryz.zeroValue175
  t46 := Tryz.underlying145
  a46 := Tryz.isAgg145
  z46 := Tryz.sizeOf145
  v46 := Tryz.zeroValue145
  t51 := Tryz.underlying62
  a51 := Tryz.isAgg62
  z51 := Tryz.sizeOf62
  v51 := Tryz.zeroValue62
  t53 := Tryz.underlying158
  a53 := Tryz.isAgg158
  z53 := Tryz.sizeOf158
  v53 := Tryz.zeroValue158
  t171 := Tryz.underlying248
  a171 := Tryz.isAgg248
  z171 := Tryz.sizeOf248
  v171 := Tryz.zeroValue248
  t173 := Tryz.underlying250
  a173 := Tryz.isAgg250
  z173 := Tryz.sizeOf250
  v173 := Tryz.zeroValue250
  t212 := Tryz.underlying265
  a212 := Tryz.isAgg265
  z212 := Tryz.sizeOf265
  v212 := Tryz.zeroValue265
  t213 := Tryz.underlying266
  a213 := Tryz.isAgg266
  z213 := Tryz.sizeOf266
  t232 := Tryz.underlying278
  a232 := Tryz.isAgg278
  z232 := Tryz.sizeOf278
  v232 := Tryz.zeroValue278
  t233 := Tryz.underlying279
  a233 := Tryz.isAgg279
  z233 := Tryz.sizeOf279
  v233 := Tryz.zeroValue279
  g17 := by kernel_rfl
  g18 := by kernel_rfl
  g19 := by kernel_rfl
  i0 := by kernel_rfl
  i2 := by kernel_rfl
  i3 := by kernel_rfl
  i4 := by kernel_rfl
  i5 := by kernel_rfl
  i9 := by kernel_rfl
  i20 := by kernel_rfl
  i37 := by kernel_rfl
  i46 := by kernel_rfl
  i51 := by kernel_rfl
  i53 := by kernel_rfl
  i171 := by kernel_rfl
  i173 := by kernel_rfl
  i212 := by kernel_rfl
  i232 := by kernel_rfl
  i233 := by kernel_rfl
  m17 := by kernel_rfl
  m18 := by kernel_rfl
  m19 := by kernel_rfl }
open Go.RowKit Go.Sort Go.Lib in
theorem Tryz.strconv_Itoa (n : Int) (h0 : -9223372036854775808 ≤ n) (h1 : n ≤ 9223372036854775807) (w : World) (htab : Lib.TabIs Tryz.prog w "internal/strconv.uint64pow10" .u64 Lib.pow10Tab) :
    Calls Tryz.prog 148 #[.int .i64 n] w fun e w' => e = .returned (.string ⟨(Lib.itoa n).toArray⟩) ∧ ∃ k os, w' = grow (w.drewN k) os := Any.strconv_Itoa Tryz.laysM171 n h0 h1 w htab
def Tryz.laysPu14_ren : Go.Shelf.Ren := ⟨fun | 14 => 194 | 16 => 226 | 17 => 227 | 19 => 247 | 20 => 248 | 21 => 249 | 22 => 250 | 23 => 251 | 24 => 252 | 25 => 262 | 27 => 148 | 26 => 263 | 28 => 175 | 29 => 213 | 30 => 233 | 31 => 234 | 32 => 235 | 33 => 236 | 35 => 169 | 34 => 254 | 36 => 255 | 37 => 256 | 38 => 257 | 39 => 264 | 40 => 265 | n => n, fun | 9 => 9 | 3 => 3 | 22 => 158 | 24 => 201 | 25 => 215 | 4 => 4 | 34 => 258 | 5 => 5 | 36 => 145 | 37 => 175 | 0 => 0 | 39 => 260 | 21 => 21 | 44 => 273 | 47 => 236 | 50 => 277 | 48 => 275 | 2 => 2 | 52 => 248 | 55 => 250 | 59 => 265 | 60 => 62 | 20 => 20 | 61 => 266 | 65 => 278 | 66 => 279 | 67 => 131 | n => n, fun | 0 => 4 | 1 => 5 | 2 => 1 | 3 => 6 | 4 => 7 | n => n⟩
theorem Tryz.laysPu14 : Go.Proofs.LaysPu.n14 Tryz.prog Tryz.laysPu14_ren := {
  mixed := by kernel_rfl
  f14 := Tryz.func194.trans (congrArg some (by kernel_rfl))
  f16 := Tryz.func226.trans (congrArg some (by kernel_rfl))
  f17 := Tryz.func227.trans (congrArg some (by kernel_rfl))
  f19 := Tryz.func247.trans (congrArg some (by kernel_rfl))
  f20 := Tryz.func248.trans (congrArg some (by kernel_rfl))
  f21 := Tryz.func249.trans (congrArg some (by kernel_rfl))
  f22 := Tryz.func250.trans (congrArg some (by kernel_rfl))
  f23 := Tryz.func251.trans (congrArg some (by kernel_rfl))
  f24 := Tryz.func252.trans (congrArg some (by kernel_rfl))
  f25 := Tryz.func262.trans (congrArg some (by kernel_rfl))
  f26 := Tryz.func263.trans (congrArg some (by kernel_rfl))
  f27 := Tryz.func148.trans (congrArg some (by kernel_rfl))
  f28 := Tryz.func175.trans (congrArg some (by kernel_rfl))
  f29 := Tryz.func213.trans (congrArg some (by kernel_rfl))
  f30 := Tryz.func233.trans (congrArg some (by kernel_rfl))
  f31 := Tryz.func234.trans (congrArg some (by kernel_rfl))
  f32 := Tryz.func235.trans (congrArg some (by kernel_rfl))
  f33 := Tryz.func236.trans (congrArg some (by kernel_rfl))
  f34 := Tryz.func254.trans (congrArg some (by kernel_rfl))
  f35 := Tryz.func169.trans (congrArg some (by kernel_rfl))
  f36 := Tryz.func255.trans (congrArg some (by kernel_rfl))
  f37 := Tryz.func256.trans (congrArg some (by kernel_rfl))
  f38 := Tryz.func257.trans (congrArg some (by kernel_rfl))
  f39 := Tryz.func264.trans (congrArg some (by kernel_rfl))
  f40 := Tryz.func265.trans (congrArg some (by kernel_rfl))
  t0 := Tryz.underlying0
  a0 := Tryz.isAgg0
  z0 := Tryz.sizeOf0
  v0 := Tryz.zeroValue0
  i0 := by kernel_rfl
  t2 := Tryz.underlying2
  a2 := Tryz.isAgg2
  z2 := Tryz.sizeOf2
  v2 := Tryz.zeroValue2
  i2 := by kernel_rfl
  t3 := Tryz.underlying3
  a3 := Tryz.isAgg3
  z3 := Tryz.sizeOf3
  v3 := Tryz.zeroValue3
  i3 := by kernel_rfl
  t4 := Tryz.underlying4
  a4 := Tryz.isAgg4
  z4 := Tryz.sizeOf4
  v4 := Tryz.zeroValue4
  i4 := by kernel_rfl
  t5 := Tryz.underlying5
  a5 := Tryz.isAgg5
  z5 := Tryz.sizeOf5
  v5 := Tryz.zeroValue5
  i5 := by kernel_rfl
  t9 := Tryz.underlying9
  a9 := Tryz.isAgg9
  z9 := Tryz.sizeOf9
  v9 := Tryz.zeroValue9
  i9 := by kernel_rfl
  t20 := Tryz.underlying20
  a20 := Tryz.isAgg20
  z20 := Tryz.sizeOf20
  v20 := Tryz.zeroValue20
  i20 := by kernel_rfl
  t21 := Tryz.underlying21
  a21 := Tryz.isAgg21
  z21 := Tryz.sizeOf21
  v21 := Tryz.zeroValue21
  i21 := by kernel_rfl
  t22 := Tryz.underlying158
  a22 := Tryz.isAgg158
  z22 := Tryz.sizeOf158
  v22 := Tryz.zeroValue158
  i22 := by kernel_rfl
  t24 := Tryz.underlying201
  a24 := Tryz.isAgg201
  z24 := Tryz.sizeOf201
  v24 := Tryz.zeroValue201
  i24 := by kernel_rfl
  t25 := Tryz.underlying215
  a25 := Tryz.isAgg215
  z25 := Tryz.sizeOf215
  v25 := Tryz.zeroValue215
  i25 := by kernel_rfl
  t34 := Tryz.underlying258
  a34 := Tryz.isAgg258
  z34 := Tryz.sizeOf258
  v34 := Tryz.zeroValue258
  i34 := by kernel_rfl
  c34 := by kernel_rfl
  t36 := Tryz.underlying145
  a36 := Tryz.isAgg145
  z36 := Tryz.sizeOf145
  v36 := Tryz.zeroValue145
  i36 := by kernel_rfl
  t37 := Tryz.underlying175
  a37 := Tryz.isAgg175
  z37 := Tryz.sizeOf175
  v37 := Tryz.zeroValue175
  i37 := by kernel_rfl
  t39 := Tryz.underlying260
  a39 := Tryz.isAgg260
  z39 := Tryz.sizeOf260
  v39 := Tryz.zeroValue260
  i39 := by kernel_rfl
  t44 := Tryz.underlying273
  a44 := Tryz.isAgg273
  z44 := Tryz.sizeOf273
  v44 := Tryz.zeroValue273
  i44 := by kernel_rfl
  t47 := Tryz.underlying236
  a47 := Tryz.isAgg236
  z47 := Tryz.sizeOf236
  v47 := Tryz.zeroValue236
  i47 := by kernel_rfl
  t48 := Tryz.underlying275
  a48 := Tryz.isAgg275
  z48 := Tryz.sizeOf275
  v48 := Tryz.zeroValue275
  i48 := by kernel_rfl
  t50 := Tryz.underlying277
  a50 := Tryz.isAgg277
  z50 := Tryz.sizeOf277
  v50 := Tryz.zeroValue277
  i50 := by kernel_rfl
  t52 := Tryz.underlying248
  a52 := Tryz.isAgg248
  z52 := Tryz.sizeOf248
  v52 := Tryz.zeroValue248
  i52 := by kernel_rfl
  t55 := Tryz.underlying250
  a55 := Tryz.isAgg250
  z55 := Tryz.sizeOf250
  v55 := Tryz.zeroValue250
  i55 := by kernel_rfl
  t59 := Tryz.underlying265
  a59 := Tryz.isAgg265
  z59 := Tryz.sizeOf265
  v59 := Tryz.zeroValue265
  i59 := by kernel_rfl
  t60 := Tryz.underlying62
  a60 := Tryz.isAgg62
  z60 := Tryz.sizeOf62
  v60 := Tryz.zeroValue62
  i60 := by kernel_rfl
  t61 := Tryz.underlying266
  a61 := Tryz.isAgg266
  z61 := Tryz.sizeOf266
  t65 := Tryz.underlying278
  a65 := Tryz.isAgg278
  z65 := Tryz.sizeOf278
  v65 := Tryz.zeroValue278
  i65 := by kernel_rfl
  t66 := Tryz.underlying279
  a66 := Tryz.isAgg279
  z66 := Tryz.sizeOf279
  v66 := Tryz.zeroValue279
  i66 := by kernel_rfl
  t67 := Tryz.underlying131
  a67 := Tryz.isAgg131
  z67 := Tryz.sizeOf131
  v67 := Tryz.zeroValue131
  i67 := by kernel_rfl
  g0 := by kernel_rfl
  m0 := by kernel_rfl
  g1 := by kernel_rfl
  m1 := by kernel_rfl
  g2 := by kernel_rfl
  m2 := by kernel_rfl
  g3 := by kernel_rfl
  m3 := by kernel_rfl
  g4 := by kernel_rfl
  m4 := by kernel_rfl }
open Go.RowKit in
theorem Tryz.strconv_ParseUint_10_at32_ok (s : ByteArray) (hmax : s.size ≤ 9223372036854775806) (u : Nat) (h : Lib.parseUintB 32 s.data.toList = .ok u) (w : World) :
    Calls Tryz.prog 194 #[.string s, .int .i64 10, .int .i64 32] w fun e w' => e = .returned (.tuple #[.int .u64 u, .nilIface]) ∧ (w' = w ∨ w' = Lib.bytesWorld w 5 s) := Any.strconv_ParseUint_10_at32_ok Tryz.laysPu14 s hmax u h w
def Tryz.lays219_ren : Go.Shelf.Ren := ⟨fun | 219 => 219 | 217 => 239 | 225 => 240 | 224 => 241 | 267 => 242 | 266 => 258 | 314 => 259 | n => n, fun | 9 => 9 | 3 => 3 | 4 => 4 | 5 => 5 | 46 => 145 | 146 => 232 | 51 => 62 | n => n, fun | 1 => 0 | n => n⟩
theorem Tryz.lays219 : Go.Proofs.Lays.n219 Tryz.prog Tryz.lays219_ren := {
  mixed := by kernel_rfl
  f217 := Tryz.func239.trans (congrArg some (by kernel_rfl))
  f219 := Tryz.func219.trans (congrArg some (by kernel_rfl))
  f224 := Tryz.func241.trans (congrArg some (by kernel_rfl))
  f225 := Tryz.func240.trans (congrArg some (by kernel_rfl))
  f266 := Tryz.func258.trans (congrArg some (by kernel_rfl))
  f267 := Tryz.func242.trans (congrArg some (by kernel_rfl))
  f314 := Tryz.func259.trans (congrArg some (by kernel_rfl))
  t3 := Tryz.underlying3
  a3 := Tryz.isAgg3
  z3 := Tryz.sizeOf3
  v3 := Tryz.zeroValue3
  t4 := Tryz.underlying4
  a4 := Tryz.isAgg4
  z4 := Tryz.sizeOf4
  v4 := Tryz.zeroValue4
  t5 := Tryz.underlying5
  a5 := Tryz.isAgg5
  z5 := Tryz.sizeOf5
  v5 := Tryz.zeroValue5
  t9 := Tryz.underlying9
  a9 := Tryz.isAgg9
  z9 := Tryz.sizeOf9
  v9 := Tryz.zeroValue9
  t46 := Tryz.underlying145
  a46 := Tryz.isAgg145
  z46 := Tryz.sizeOf145
  v46 := Tryz.zeroValue145
  t51 := Tryz.underlying62
  a51 := Tryz.isAgg62
  z51 := Tryz.sizeOf62
  v51 := Tryz.zeroValue62
  t146 := Tryz.underlying232
  a146 := Tryz.isAgg232
  z146 := Tryz.sizeOf232
  v146 := Tryz.zeroValue232
  g1 := by kernel_rfl }
open Go.RowKit Go.Lib in
theorem Tryz.stringslite_Index_one (s : ByteArray) (c : UInt8) (w : World) :
    Calls Tryz.prog 219 #[.string s, .string ⟨#[c]⟩] w fun e w' => e = .returned (.int .i64 (Lib.indexByte s.data.toList c)) ∧ w' = w := Any.stringslite_Index_one Tryz.lays219 s c w
def Tryz.laysGw17_ren : Go.Shelf.Ren := ⟨fun | 17 => 192 | 15 => 225 | 20 => 246 | n => n, fun | 9 => 9 | 23 => 214 | 4 => 4 | 3 => 3 | 0 => 0 | 21 => 21 | n => n, fun | n => n⟩
theorem Tryz.laysGw17 : Go.Proofs.LaysGw.n17 Tryz.prog Tryz.laysGw17_ren := {
  mixed := by kernel_rfl
  f15 := Tryz.func225.trans (congrArg some (by kernel_rfl))
  f17 := Tryz.func192.trans (congrArg some (by kernel_rfl))
  f20 := Tryz.func246.trans (congrArg some (by kernel_rfl))
  t0 := Tryz.underlying0
  a0 := Tryz.isAgg0
  z0 := Tryz.sizeOf0
  v0 := Tryz.zeroValue0
  i0 := by kernel_rfl
  t3 := Tryz.underlying3
  a3 := Tryz.isAgg3
  z3 := Tryz.sizeOf3
  v3 := Tryz.zeroValue3
  i3 := by kernel_rfl
  t4 := Tryz.underlying4
  a4 := Tryz.isAgg4
  z4 := Tryz.sizeOf4
  v4 := Tryz.zeroValue4
  i4 := by kernel_rfl
  t9 := Tryz.underlying9
  a9 := Tryz.isAgg9
  z9 := Tryz.sizeOf9
  v9 := Tryz.zeroValue9
  i9 := by kernel_rfl
  t21 := Tryz.underlying21
  a21 := Tryz.isAgg21
  z21 := Tryz.sizeOf21
  v21 := Tryz.zeroValue21
  i21 := by kernel_rfl
  t23 := Tryz.underlying214
  a23 := Tryz.isAgg214
  z23 := Tryz.sizeOf214
  v23 := Tryz.zeroValue214
  i23 := by kernel_rfl }
def Tryz.lays101_ren : Go.Shelf.Ren := ⟨fun | 101 => 154 | 208 => 183 | 206 => 216 | n => n, fun | 9 => 9 | 4 => 4 | 3 => 3 | n => n, fun | n => n⟩
theorem Tryz.lays101 : Go.Proofs.Lays.n101 Tryz.prog Tryz.lays101_ren := {
  mixed := by kernel_rfl
  f101 := Tryz.func154.trans (congrArg some (by kernel_rfl))
  f206 := Tryz.func216.trans (congrArg some (by kernel_rfl))
  f208 := Tryz.func183.trans (congrArg some (by kernel_rfl))
  t3 := Tryz.underlying3
  a3 := Tryz.isAgg3
  z3 := Tryz.sizeOf3
  v3 := Tryz.zeroValue3
  t4 := Tryz.underlying4
  a4 := Tryz.isAgg4
  z4 := Tryz.sizeOf4
  v4 := Tryz.zeroValue4
  t9 := Tryz.underlying9
  a9 := Tryz.isAgg9
  z9 := Tryz.sizeOf9
  v9 := Tryz.zeroValue9 }
open Go.RowKit Go.Lib in
theorem Tryz.strings_TrimPrefix (s p : ByteArray) (w : World) :
    Calls Tryz.prog 154 #[.string s, .string p] w fun e w' => e = .returned (.string ⟨(Lib.trimPrefix s.data.toList p.data.toList).toArray⟩) ∧ w' = w := Any.strings_TrimPrefix Tryz.lays101 s p w
def Tryz.lays105_ren : Go.Shelf.Ren := ⟨fun | 105 => 149 | 212 => 176 | 99 => 177 | 165 => 178 | 166 => 179 | 170 => 180 | 169 => 181 | 263 => 214 | 264 => 215 | 206 => 216 | 240 => 217 | 241 => 218 | 276 => 237 | 277 => 238 | n => n, fun | 9 => 9 | 3 => 3 | 4 => 4 | 20 => 20 | 0 => 0 | 46 => 145 | 109 => 193 | 5 => 5 | 72 => 198 | 76 => 202 | 51 => 62 | 146 => 232 | 53 => 158 | 148 => 234 | 70 => 196 | 37 => 175 | 75 => 201 | 127 => 236 | 164 => 252 | 80 => 131 | n => n, fun | n => n⟩
theorem Tryz.lays105 : Go.Proofs.Lays.n105 Tryz.prog Tryz.lays105_ren := {
  mixed := by kernel_rfl
  f99 := Tryz.func177.trans (congrArg some (by kernel_rfl))
  f105 := Tryz.func149.trans (congrArg some (by kernel_rfl))
  f165 := Tryz.func178.trans (congrArg some (by kernel_rfl))
  f166 := Tryz.func179.trans (congrArg some (by kernel_rfl))
  f169 := Tryz.func181.trans (congrArg some (by kernel_rfl))
  f170 := Tryz.func180.trans (congrArg some (by kernel_rfl))
  f206 := Tryz.func216.trans (congrArg some (by kernel_rfl))
  f212 := Tryz.func176.trans (congrArg some (by kernel_rfl))
  f240 := Tryz.func217.trans (congrArg some (by kernel_rfl))
  f241 := Tryz.func218.trans (congrArg some (by kernel_rfl))
  f263 := Tryz.func214.trans (congrArg some (by kernel_rfl))
  f264 := Tryz.func215.trans (congrArg some (by kernel_rfl))
  f276 := Tryz.func237.trans (congrArg some (by kernel_rfl))
  f277 := Tryz.func238.trans (congrArg some (by kernel_rfl))
  t0 := Tryz.underlying0
  a0 := Tryz.isAgg0
  z0 := Tryz.sizeOf0
  v0 := Tryz.zeroValue0
  t3 := Tryz.underlying3
  a3 := Tryz.isAgg3
  z3 := Tryz.sizeOf3
  v3 := Tryz.zeroValue3
  t4 := Tryz.underlying4
  a4 := Tryz.isAgg4
  z4 := Tryz.sizeOf4
  v4 := Tryz.zeroValue4
  t5 := Tryz.underlying5
  a5 := Tryz.isAgg5
  z5 := Tryz.sizeOf5
  v5 := Tryz.zeroValue5
  t9 := Tryz.underlying9
  a9 := Tryz.isAgg9
  z9 := Tryz.sizeOf9
  v9 := Tryz.zeroValue9
  t20 := Tryz.underlying20
  a20 := Tryz.isAgg20
  z20 := Tryz.sizeOf20
  v20 := Tryz.zeroValue20
  t37 := Tryz.underlying175
  a37 := Tryz.isAgg175
  z37 := Tryz.sizeOf175
  v37 := Tryz.zeroValue175
  t46 := Tryz.underlying145
  a46 := Tryz.isAgg145
  z46 := Tryz.sizeOf145
  v46 := Tryz.zeroValue145
  t51 := Tryz.underlying62
  a51 := Tryz.isAgg62
  z51 := Tryz.sizeOf62
  v51 := Tryz.zeroValue62
  t53 := Tryz.underlying158
  a53 := Tryz.isAgg158
  z53 := Tryz.sizeOf158
  v53 := Tryz.zeroValue158
  t70 := Tryz.underlying196
  a70 := Tryz.isAgg196
  z70 := Tryz.sizeOf196
  v70 := Tryz.zeroValue196
  t72 := Tryz.underlying198
  a72 := Tryz.isAgg198
  z72 := Tryz.sizeOf198
  v72 := Tryz.zeroValue198
  t75 := Tryz.underlying201
  a75 := Tryz.isAgg201
  z75 := Tryz.sizeOf201
  v75 := Tryz.zeroValue201
  t76 := Tryz.underlying202
  a76 := Tryz.isAgg202
  z76 := Tryz.sizeOf202
  v76 := Tryz.zeroValue202
  t109 := Tryz.underlying193
  a109 := Tryz.isAgg193
  z109 := Tryz.sizeOf193
  v109 := Tryz.zeroValue193
  t127 := Tryz.underlying236
  a127 := Tryz.isAgg236
  z127 := Tryz.sizeOf236
  v127 := Tryz.zeroValue236
  t146 := Tryz.underlying232
  a146 := Tryz.isAgg232
  z146 := Tryz.sizeOf232
  v146 := Tryz.zeroValue232
  t148 := Tryz.underlying234
  a148 := Tryz.isAgg234
  z148 := Tryz.sizeOf234
  v148 := Tryz.zeroValue234
  t164 := Tryz.underlying252
  a164 := Tryz.isAgg252
  z164 := Tryz.sizeOf252
  v164 := Tryz.zeroValue252 }
theorem Tryz.Builder_Extra_105 : Builder.Extra Tryz.prog Tryz.lays105_ren := {
  sizeBuilder := by kernel_rfl
  liesBuilder := by kernel_rfl
  t5 := Tryz.underlying5
  a5 := Tryz.isAgg5
  z5 := Tryz.sizeOf5
  v5 := Tryz.zeroValue5
  infoByte := by kernel_rfl
  cellsByte := by kernel_rfl
  sizeByte := by kernel_rfl
  neB5 := by decide }
open Go.RowKit Go.Lib in
theorem Tryz.strings_Repeat (s : ByteArray) (c : Nat) (w : World) (hc : c ≤ 9223372036854775807) (hlen : s.size * c ≤ 140737488355328) :
    Calls Tryz.prog 149 #[.string s, .int .i64 c] w fun e w' => e = .returned (.string ⟨(Lib.repeatL s.data.toList c).toArray⟩) ∧ Below w.heap.size w w' := Any.strings_Repeat Tryz.lays105 Tryz.Builder_Extra_105 s c w hc hlen
open Go.RowKit Go.Lib in
theorem Tryz.strings_ContainsFunc_grows (g : Nat) (lb : Array Value) (eg : ∀ args w, (callFunc g args).run Tryz.prog w = .ok (.enter g args) w) (p : Nat → Bool) (s : ByteArray) (w : World) (hp : PredGrows Tryz.prog g lb p w) :
    Calls Tryz.prog 192 #[.string s, .func (.func g) #[] lb] w fun e w' => e = .returned (.bool (decide (0 ≤ Lib.idxFunc p true s))) ∧ Below w.heap.size w w' := Any.strings_ContainsFunc_grows Tryz.laysGw17 g lb eg p s w hp
def Tryz.sortC_ren : Go.Shelf.Ren := ⟨fun | 6 => 133 | 15 => 126 | 14 => 171 | 28 => 168 | 29 => 169 | 20 => 201 | 21 => 202 | 22 => 203 | 23 => 204 | 24 => 205 | 25 => 206 | 26 => 207 | 27 => 208 | 46 => 229 | 47 => 197 | 48 => 198 | 49 => 230 | 50 => 231 | 57 => 253 | n => n, fun | 22 => 68 | 24 => 79 | 25 => 152 | 3 => 3 | 39 => 145 | 0 => 0 | 53 => 62 | 55 => 158 | 4 => 4 | 46 => 179 | 45 => 178 | 50 => 183 | 5 => 5 | 9 => 9 | 66 => 218 | 70 => 222 | 76 => 243 | 77 => 244 | n => n, fun | n => n⟩
theorem Tryz.sortC : Go.Proofs.SlLaysF0.n6 Tryz.prog Tryz.sortC_ren := {
  mixed := by kernel_rfl
  f6 := ⟨Tryz.f133.name, by decide, Tryz.func133.trans (congrArg some (by kernel_rfl))⟩
  f14 := ⟨Tryz.f171.name, by decide, Tryz.func171.trans (congrArg some (by kernel_rfl))⟩
  f15 := Tryz.func126.trans (congrArg some (by kernel_rfl))
  f20 := ⟨Tryz.f201.name, by decide, Tryz.func201.trans (congrArg some (by kernel_rfl))⟩
  f21 := ⟨Tryz.f202.name, by decide, Tryz.func202.trans (congrArg some (by kernel_rfl))⟩
  f22 := ⟨Tryz.f203.name, by decide, Tryz.func203.trans (congrArg some (by kernel_rfl))⟩
  f23 := ⟨Tryz.f204.name, by decide, Tryz.func204.trans (congrArg some (by kernel_rfl))⟩
  f24 := ⟨Tryz.f205.name, by decide, Tryz.func205.trans (congrArg some (by kernel_rfl))⟩
  f25 := ⟨Tryz.f206.name, by decide, Tryz.func206.trans (congrArg some (by kernel_rfl))⟩
  f26 := ⟨Tryz.f207.name, by decide, Tryz.func207.trans (congrArg some (by kernel_rfl))⟩
  f27 := ⟨Tryz.f208.name, by decide, Tryz.func208.trans (congrArg some (by kernel_rfl))⟩
  f28 := Tryz.func168.trans (congrArg some (by kernel_rfl))
  f29 := Tryz.func169.trans (congrArg some (by kernel_rfl))
  f46 := ⟨Tryz.f229.name, by decide, Tryz.func229.trans (congrArg some (by kernel_rfl))⟩
  f47 := Tryz.func197.trans (congrArg some (by kernel_rfl))
  f48 := Tryz.func198.trans (congrArg some (by kernel_rfl))
  f49 := ⟨Tryz.f230.name, by decide, Tryz.func230.trans (congrArg some (by kernel_rfl))⟩
  f50 := ⟨Tryz.f231.name, by decide, Tryz.func231.trans (congrArg some (by kernel_rfl))⟩
  f57 := ⟨Tryz.f253.name, by decide, Tryz.func253.trans (congrArg some (by kernel_rfl))⟩
  t0 := Tryz.underlying0
  a0 := Tryz.isAgg0
  z0 := Tryz.sizeOf0
  v0 := Tryz.zeroValue0
  t3 := Tryz.underlying3
  a3 := Tryz.isAgg3
  z3 := Tryz.sizeOf3
  v3 := Tryz.zeroValue3
  t4 := Tryz.underlying4
  a4 := Tryz.isAgg4
  z4 := Tryz.sizeOf4
  v4 := Tryz.zeroValue4
  t5 := Tryz.underlying5
  a5 := Tryz.isAgg5
  z5 := Tryz.sizeOf5
  v5 := Tryz.zeroValue5
  t9 := Tryz.underlying9
  a9 := Tryz.isAgg9
  z9 := Tryz.sizeOf9
  v9 := Tryz.zeroValue9
  t22 := Tryz.underlying68
  a22 := Tryz.isAgg68
  z22 := Tryz.sizeOf68
  v22 := Tryz.zeroValue68
  t25 := Tryz.underlying152
  a25 := Tryz.isAgg152
  z25 := Tryz.sizeOf152
  v25 := Tryz.zeroValue152
  t39 := Tryz.underlying145
  a39 := Tryz.isAgg145
  z39 := Tryz.sizeOf145
  v39 := Tryz.zeroValue145
  t45 := Tryz.underlying178
  a45 := Tryz.isAgg178
  z45 := Tryz.sizeOf178
  v45 := Tryz.zeroValue178
  t46 := Tryz.underlying179
  a46 := Tryz.isAgg179
  z46 := Tryz.sizeOf179
  v46 := Tryz.zeroValue179
  t50 := Tryz.underlying183
  a50 := Tryz.isAgg183
  z50 := Tryz.sizeOf183
  v50 := Tryz.zeroValue183
  t53 := Tryz.underlying62
  a53 := Tryz.isAgg62
  z53 := Tryz.sizeOf62
  v53 := Tryz.zeroValue62
  t55 := Tryz.underlying158
  a55 := Tryz.isAgg158
  z55 := Tryz.sizeOf158
  v55 := Tryz.zeroValue158
  t66 := Tryz.underlying218
  a66 := Tryz.isAgg218
  z66 := Tryz.sizeOf218
  v66 := Tryz.zeroValue218
  t70 := Tryz.underlying222
  a70 := Tryz.isAgg222
  z70 := Tryz.sizeOf222
  v70 := Tryz.zeroValue222
  t76 := Tryz.underlying243
  a76 := Tryz.isAgg243
  z76 := Tryz.sizeOf243
  v76 := Tryz.zeroValue243
  t77 := Tryz.underlying244
  a77 := Tryz.isAgg244
  z77 := Tryz.sizeOf244
  v77 := Tryz.zeroValue244 }
def Tryz.sortP_ren : Go.Shelf.Ren := ⟨fun | 6 => 74 | 15 => 126 | 14 => 125 | 28 => 168 | 29 => 169 | 20 => 160 | 21 => 161 | 22 => 162 | 23 => 163 | 24 => 164 | 25 => 165 | 26 => 166 | 27 => 167 | 46 => 196 | 47 => 197 | 48 => 198 | 49 => 199 | 50 => 200 | 57 => 228 | n => n, fun | 22 => 80 | 24 => 84 | 25 => 100 | 3 => 3 | 39 => 145 | 0 => 0 | 53 => 62 | 55 => 158 | 4 => 4 | 46 => 179 | 45 => 178 | 50 => 183 | 5 => 5 | 9 => 9 | 66 => 218 | 70 => 222 | 76 => 243 | 77 => 244 | n => n, fun | n => n⟩
theorem Tryz.sortP : Go.Proofs.SlLaysF0.n6 Tryz.prog Tryz.sortP_ren := {
  mixed := by kernel_rfl
  f6 := ⟨Tryz.f74.name, by decide, Tryz.func74.trans (congrArg some (by kernel_rfl))⟩
  f14 := ⟨Tryz.f125.name, by decide, Tryz.func125.trans (congrArg some (by kernel_rfl))⟩
  f15 := Tryz.func126.trans (congrArg some (by kernel_rfl))
  f20 := ⟨Tryz.f160.name, by decide, Tryz.func160.trans (congrArg some (by kernel_rfl))⟩
  f21 := ⟨Tryz.f161.name, by decide, Tryz.func161.trans (congrArg some (by kernel_rfl))⟩
  f22 := ⟨Tryz.f162.name, by decide, Tryz.func162.trans (congrArg some (by kernel_rfl))⟩
  f23 := ⟨Tryz.f163.name, by decide, Tryz.func163.trans (congrArg some (by kernel_rfl))⟩
  f24 := ⟨Tryz.f164.name, by decide, Tryz.func164.trans (congrArg some (by kernel_rfl))⟩
  f25 := ⟨Tryz.f165.name, by decide, Tryz.func165.trans (congrArg some (by kernel_rfl))⟩
  f26 := ⟨Tryz.f166.name, by decide, Tryz.func166.trans (congrArg some (by kernel_rfl))⟩
  f27 := ⟨Tryz.f167.name, by decide, Tryz.func167.trans (congrArg some (by kernel_rfl))⟩
  f28 := Tryz.func168.trans (congrArg some (by kernel_rfl))
  f29 := Tryz.func169.trans (congrArg some (by kernel_rfl))
  f46 := ⟨Tryz.f196.name, by decide, Tryz.func196.trans (congrArg some (by kernel_rfl))⟩
  f47 := Tryz.func197.trans (congrArg some (by kernel_rfl))
  f48 := Tryz.func198.trans (congrArg some (by kernel_rfl))
  f49 := ⟨Tryz.f199.name, by decide, Tryz.func199.trans (congrArg some (by kernel_rfl))⟩
  f50 := ⟨Tryz.f200.name, by decide, Tryz.func200.trans (congrArg some (by kernel_rfl))⟩
  f57 := ⟨Tryz.f228.name, by decide, Tryz.func228.trans (congrArg some (by kernel_rfl))⟩
  t0 := Tryz.underlying0
  a0 := Tryz.isAgg0
  z0 := Tryz.sizeOf0
  v0 := Tryz.zeroValue0
  t3 := Tryz.underlying3
  a3 := Tryz.isAgg3
  z3 := Tryz.sizeOf3
  v3 := Tryz.zeroValue3
  t4 := Tryz.underlying4
  a4 := Tryz.isAgg4
  z4 := Tryz.sizeOf4
  v4 := Tryz.zeroValue4
  t5 := Tryz.underlying5
  a5 := Tryz.isAgg5
  z5 := Tryz.sizeOf5
  v5 := Tryz.zeroValue5
  t9 := Tryz.underlying9
  a9 := Tryz.isAgg9
  z9 := Tryz.sizeOf9
  v9 := Tryz.zeroValue9
  t22 := Tryz.underlying80
  a22 := Tryz.isAgg80
  z22 := Tryz.sizeOf80
  v22 := Tryz.zeroValue80
  t25 := Tryz.underlying100
  a25 := Tryz.isAgg100
  z25 := Tryz.sizeOf100
  v25 := Tryz.zeroValue100
  t39 := Tryz.underlying145
  a39 := Tryz.isAgg145
  z39 := Tryz.sizeOf145
  v39 := Tryz.zeroValue145
  t45 := Tryz.underlying178
  a45 := Tryz.isAgg178
  z45 := Tryz.sizeOf178
  v45 := Tryz.zeroValue178
  t46 := Tryz.underlying179
  a46 := Tryz.isAgg179
  z46 := Tryz.sizeOf179
  v46 := Tryz.zeroValue179
  t50 := Tryz.underlying183
  a50 := Tryz.isAgg183
  z50 := Tryz.sizeOf183
  v50 := Tryz.zeroValue183
  t53 := Tryz.underlying62
  a53 := Tryz.isAgg62
  z53 := Tryz.sizeOf62
  v53 := Tryz.zeroValue62
  t55 := Tryz.underlying158
  a55 := Tryz.isAgg158
  z55 := Tryz.sizeOf158
  v55 := Tryz.zeroValue158
  t66 := Tryz.underlying218
  a66 := Tryz.isAgg218
  z66 := Tryz.sizeOf218
  v66 := Tryz.zeroValue218
  t70 := Tryz.underlying222
  a70 := Tryz.isAgg222
  z70 := Tryz.sizeOf222
  v70 := Tryz.zeroValue222
  t76 := Tryz.underlying243
  a76 := Tryz.isAgg243
  z76 := Tryz.sizeOf243
  v76 := Tryz.zeroValue243
  t77 := Tryz.underlying244
  a77 := Tryz.isAgg244
  z77 := Tryz.sizeOf244
  v77 := Tryz.zeroValue244 }
def Tryz.growP_ren : Go.Shelf.Ren := ⟨fun | 4 => 170 | n => n, fun | 22 => 80 | 25 => 84 | 3 => 3 | 4 => 4 | 9 => 9 | 20 => 20 | 0 => 0 | n => n, fun | n => n⟩
theorem Tryz.growP : Go.Proofs.Lays8.n4 Tryz.prog Tryz.growP_ren := {
  mixed := by kernel_rfl
  f4 := ⟨Tryz.f170.name, by decide, Tryz.func170.trans (congrArg some (by kernel_rfl))⟩
  t0 := Tryz.underlying0
  a0 := Tryz.isAgg0
  z0 := Tryz.sizeOf0
  v0 := Tryz.zeroValue0
  t3 := Tryz.underlying3
  a3 := Tryz.isAgg3
  z3 := Tryz.sizeOf3
  v3 := Tryz.zeroValue3
  t4 := Tryz.underlying4
  a4 := Tryz.isAgg4
  z4 := Tryz.sizeOf4
  v4 := Tryz.zeroValue4
  t9 := Tryz.underlying9
  a9 := Tryz.isAgg9
  z9 := Tryz.sizeOf9
  v9 := Tryz.zeroValue9
  t20 := Tryz.underlying20
  a20 := Tryz.isAgg20
  z20 := Tryz.sizeOf20
  v20 := Tryz.zeroValue20
  t22 := Tryz.underlying80
  a22 := Tryz.isAgg80
  z22 := Tryz.sizeOf80
  v22 := Tryz.zeroValue80 }
end Go.Proofs
