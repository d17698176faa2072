/-
  The library contracts that the proof of IntervalFull takes, laid at this program (printed by the kit, in plain words; cut down to what is used).
-/
import Derived.Shelf.Strings.Builder1
import Derived.Shelf.Strings.Builder2
import Derived.Shelf.Strings.OnBuilder
import Derived.Shelf.Strings.Trim
import Derived.Shelf.Small.Utf8
import Derived.Shelf.Small.Bits
import Derived.Shelf.Small.Strs
import Derived.Shelf.Small.Wraps
import Derived.Shelf.Strconv.Itoa0
import Derived.Shelf.Strconv.Itoa1
import Derived.Shelf.LaysM
import Derived.Shelf.Strconv.Itoa2
import Derived.Shelf.Strconv.Itoa3
import Derived.Shelf.Strconv.Lower
import Derived.Shelf.Strconv.ParseUint10
import Derived.Shelf.Strconv.ParseUintEmpty
import Derived.Shelf.Strconv.ParseUint10b64
import Derived.Shelf.Strconv.ParseUint10b32
import Derived.Shelf.Strconv.ParseUint10b16
import Derived.Shelf.Strconv.ParseUint10b8
import Derived.Shelf.Strconv.ParseUint10At
import Derived.Ground.MpProg
import Derived.Shelf.Pu.ParseUintPublic10
import Derived.Shelf.Strings.Search1
import Derived.Shelf.Strings.Search2
import Derived.Shelf.Strings.Cut
import Derived.Shelf.Strings.Shaped
import Derived.Shelf.GgClosure.StringsIndexFunc
import Derived.Ground.GgwProg
import Derived.Shelf.GgClosure.StringsIndexFuncTop
import Derived.Shelf.GgClosure.StringsRunes
import Derived.Shelf.Strings.Prefix
import Derived.Shelf.Strings.Runes
import Derived.Shelf.Strings.AsciiSet
import Derived.Shelf.Bits.Mul64
import Derived.Shelf.Unicode.DecodeSlow
import Derived.Shelf.Unicode.DecodeAny
import Derived.Shelf.Unicode.DecodeLast
import Derived.Shelf.Strings.FuncGrows
import Derived.Ground.Names2Prog
import Derived.Shelf.Slices.ReverseS
import Derived.Shelf.Slices.Cells
import Derived.Shelf.SlSortCmp.WholeK
import Derived.Shelf.Spec.SlicesGrow
import Derived.Ground.SlsfProg
import Derived.Ground.Names8Prog
import Derived.Test.YtfmgjcgcocidfaaGreatDoorProg
namespace Go.Proofs
open Go.Shelf
def Tryz.lays156_ren : Go.Shelf.Ren := ⟨fun | 156 => 91 | 165 => 126 | 166 => 127 | 169 => 129 | 240 => 151 | 241 => 152 | 276 => 173 | 277 => 174 | n => n, fun | 31 => 132 | 9 => 9 | 3 => 3 | 4 => 4 | 0 => 0 | 20 => 20 | 72 => 175 | 76 => 177 | 70 => 173 | 37 => 139 | 75 => 163 | 127 => 198 | 164 => 213 | 5 => 5 | 80 => 100 | n => n, fun | n => n⟩
theorem Tryz.lays156 : Go.Proofs.Lays.n156 Tryz.prog Tryz.lays156_ren := {
  mixed := by kernel_rfl
  f156 := Tryz.func91.trans (congrArg some (by kernel_rfl))
  f165 := Tryz.func126.trans (congrArg some (by kernel_rfl))
  f166 := Tryz.func127.trans (congrArg some (by kernel_rfl))
  f169 := Tryz.func129.trans (congrArg some (by kernel_rfl))
  f240 := Tryz.func151.trans (congrArg some (by kernel_rfl))
  f241 := Tryz.func152.trans (congrArg some (by kernel_rfl))
  f276 := Tryz.func173.trans (congrArg some (by kernel_rfl))
  f277 := Tryz.func174.trans (congrArg some (by kernel_rfl))
  t0 := Tryz.underlying0
  a0 := Tryz.isAgg0
  z0 := Tryz.sizeOf0
  v0 := Tryz.zeroValue0
  t3 := Tryz.underlying3
  a3 := Tryz.isAgg3
  z3 := Tryz.sizeOf3
  v3 := Tryz.zeroValue3
  t4 := Tryz.underlying4
  a4 := Tryz.isAgg4
  z4 := Tryz.sizeOf4
  v4 := Tryz.zeroValue4
  t9 := Tryz.underlying9
  a9 := Tryz.isAgg9
  z9 := Tryz.sizeOf9
  v9 := Tryz.zeroValue9
  t20 := Tryz.underlying20
  a20 := Tryz.isAgg20
  z20 := Tryz.sizeOf20
  v20 := Tryz.zeroValue20
  t31 := Tryz.underlying132
  a31 := Tryz.isAgg132
  z31 := Tryz.sizeOf132
  v31 := Tryz.zeroValue132
  t37 := Tryz.underlying139
  a37 := Tryz.isAgg139
  z37 := Tryz.sizeOf139
  v37 := Tryz.zeroValue139
  t70 := Tryz.underlying173
  a70 := Tryz.isAgg173
  z70 := Tryz.sizeOf173
  v70 := Tryz.zeroValue173
  t72 := Tryz.underlying175
  a72 := Tryz.isAgg175
  z72 := Tryz.sizeOf175
  v72 := Tryz.zeroValue175
  t75 := Tryz.underlying163
  a75 := Tryz.isAgg163
  z75 := Tryz.sizeOf163
  v75 := Tryz.zeroValue163
  t76 := Tryz.underlying177
  a76 := Tryz.isAgg177
  z76 := Tryz.sizeOf177
  v76 := Tryz.zeroValue177
  t127 := Tryz.underlying198
  a127 := Tryz.isAgg198
  z127 := Tryz.sizeOf198
  v127 := Tryz.zeroValue198
  t164 := Tryz.underlying213
  a164 := Tryz.isAgg213
  z164 := Tryz.sizeOf213
  v164 := Tryz.zeroValue213 }
theorem Tryz.Builder_Extra_156 : Builder.Extra Tryz.prog Tryz.lays156_ren := {
  sizeBuilder := by kernel_rfl
  liesBuilder := by kernel_rfl
  t5 := Tryz.underlying5
  a5 := Tryz.isAgg5
  z5 := Tryz.sizeOf5
  v5 := Tryz.zeroValue5
  infoByte := by kernel_rfl
  cellsByte := by kernel_rfl
  sizeByte := by kernel_rfl
  neB5 := by decide }
open Go.RowKit in
theorem Tryz.strings_Join (bk o c : Nat) (xs : List ByteArray) (sep : ByteArray) (w : World) (hcells : ∀ (j : Nat) x, xs[j]? = some x → w.cell? ⟨bk, o + j, none⟩ = some (.string x)) (hbk : bk < w.heap.size) (hN : xs.length ≤ 140737488355328) (hcap : xs.length ≤ c) (hlen : (Lib.join (xs.map (·.data.toList)) sep.data.toList).length ≤ 140737488355328) :
    Calls Tryz.prog 91 #[.slice (some ⟨bk, o, none⟩) xs.length c, .string sep] w fun e w' => e = .returned (.string ⟨(Lib.join (xs.map (·.data.toList)) sep.data.toList).toArray⟩) ∧ Below w.heap.size w w' := Any.strings_Join Tryz.lays156 Tryz.Builder_Extra_156 bk o c xs sep w hcells hbk hN hcap hlen
def Tryz.lays160_ren : Go.Shelf.Ren := ⟨fun | 160 => 77 | 232 => 109 | 231 => 108 | 227 => 110 | 234 => 112 | 233 => 111 | 236 => 114 | 235 => 113 | 228 => 136 | 271 => 139 | 151 => 138 | 197 => 137 | 120 => 160 | 152 => 159 | 260 => 158 | 137 => 177 | 119 => 178 | 224 => 156 | 225 => 155 | 217 => 154 | 266 => 175 | n => n, fun | 9 => 9 | 4 => 4 | 3 => 3 | 5 => 5 | 117 => 154 | 116 => 153 | 0 => 0 | 124 => 157 | 21 => 21 | 105 => 186 | 46 => 91 | 119 => 217 | 139 => 220 | 138 => 219 | n => n, fun | 3 => 1 | 4 => 2 | n => n⟩
theorem Tryz.lays160 : Go.Proofs.Lays.n160 Tryz.prog Tryz.lays160_ren := {
  mixed := by kernel_rfl
  f119 := Tryz.func178.trans (congrArg some (by kernel_rfl))
  f120 := Tryz.func160.trans (congrArg some (by kernel_rfl))
  f137 := Tryz.func177.trans (congrArg some (by kernel_rfl))
  f151 := Tryz.func138.trans (congrArg some (by kernel_rfl))
  f152 := Tryz.func159.trans (congrArg some (by kernel_rfl))
  f160 := Tryz.func77.trans (congrArg some (by kernel_rfl))
  f197 := Tryz.func137.trans (congrArg some (by kernel_rfl))
  f217 := Tryz.func154.trans (congrArg some (by kernel_rfl))
  f224 := Tryz.func156.trans (congrArg some (by kernel_rfl))
  f225 := Tryz.func155.trans (congrArg some (by kernel_rfl))
  f227 := Tryz.func110.trans (congrArg some (by kernel_rfl))
  f228 := Tryz.func136.trans (congrArg some (by kernel_rfl))
  f231 := Tryz.func108.trans (congrArg some (by kernel_rfl))
  f232 := Tryz.func109.trans (congrArg some (by kernel_rfl))
  f233 := Tryz.func111.trans (congrArg some (by kernel_rfl))
  f234 := Tryz.func112.trans (congrArg some (by kernel_rfl))
  f235 := Tryz.func113.trans (congrArg some (by kernel_rfl))
  f236 := Tryz.func114.trans (congrArg some (by kernel_rfl))
  f260 := Tryz.func158.trans (congrArg some (by kernel_rfl))
  f266 := Tryz.func175.trans (congrArg some (by kernel_rfl))
  f271 := Tryz.func139.trans (congrArg some (by kernel_rfl))
  t0 := Tryz.underlying0
  a0 := Tryz.isAgg0
  z0 := Tryz.sizeOf0
  v0 := Tryz.zeroValue0
  t3 := Tryz.underlying3
  a3 := Tryz.isAgg3
  z3 := Tryz.sizeOf3
  v3 := Tryz.zeroValue3
  t4 := Tryz.underlying4
  a4 := Tryz.isAgg4
  z4 := Tryz.sizeOf4
  v4 := Tryz.zeroValue4
  t5 := Tryz.underlying5
  a5 := Tryz.isAgg5
  z5 := Tryz.sizeOf5
  v5 := Tryz.zeroValue5
  t9 := Tryz.underlying9
  a9 := Tryz.isAgg9
  z9 := Tryz.sizeOf9
  v9 := Tryz.zeroValue9
  t21 := Tryz.underlying21
  a21 := Tryz.isAgg21
  z21 := Tryz.sizeOf21
  v21 := Tryz.zeroValue21
  t46 := Tryz.underlying91
  a46 := Tryz.isAgg91
  z46 := Tryz.sizeOf91
  v46 := Tryz.zeroValue91
  t105 := Tryz.underlying186
  a105 := Tryz.isAgg186
  z105 := Tryz.sizeOf186
  v105 := Tryz.zeroValue186
  t116 := Tryz.underlying153
  a116 := Tryz.isAgg153
  z116 := Tryz.sizeOf153
  t117 := Tryz.underlying154
  a117 := Tryz.isAgg154
  z117 := Tryz.sizeOf154
  v117 := Tryz.zeroValue154
  t119 := Tryz.underlying217
  a119 := Tryz.isAgg217
  z119 := Tryz.sizeOf217
  t124 := Tryz.underlying157
  a124 := Tryz.isAgg157
  z124 := Tryz.sizeOf157
  v124 := Tryz.zeroValue157
  t138 := Tryz.underlying219
  a138 := Tryz.isAgg219
  z138 := Tryz.sizeOf219
  v138 := Tryz.zeroValue219
  t139 := Tryz.underlying220
  a139 := Tryz.isAgg220
  z139 := Tryz.sizeOf220
  v139 := Tryz.zeroValue220
  g3 := by kernel_rfl
  g4 := by kernel_rfl }
def Tryz.lays103_ren : Go.Shelf.Ren := ⟨fun | 103 => 115 | 210 => 140 | 206 => 135 | n => n, fun | 9 => 9 | 4 => 4 | 24 => 158 | 3 => 3 | n => n, fun | n => n⟩
theorem Tryz.lays103 : Go.Proofs.Lays.n103 Tryz.prog Tryz.lays103_ren := {
  mixed := by kernel_rfl
  f103 := Tryz.func115.trans (congrArg some (by kernel_rfl))
  f206 := Tryz.func135.trans (congrArg some (by kernel_rfl))
  f210 := Tryz.func140.trans (congrArg some (by kernel_rfl))
  t3 := Tryz.underlying3
  a3 := Tryz.isAgg3
  z3 := Tryz.sizeOf3
  v3 := Tryz.zeroValue3
  t4 := Tryz.underlying4
  a4 := Tryz.isAgg4
  z4 := Tryz.sizeOf4
  v4 := Tryz.zeroValue4
  t9 := Tryz.underlying9
  a9 := Tryz.isAgg9
  z9 := Tryz.sizeOf9
  v9 := Tryz.zeroValue9
  t24 := Tryz.underlying158
  a24 := Tryz.isAgg158
  z24 := Tryz.sizeOf158
  v24 := Tryz.zeroValue158 }
open Go.RowKit in
theorem Tryz.strings_CutPrefix (s p : ByteArray) (w : World) :
    Calls Tryz.prog 115 #[.string s, .string p] w fun e w' => e = .returned (.tuple #[.string ⟨(Lib.trimPrefix s.data.toList p.data.toList).toArray⟩, .bool (Lib.hasPrefix s.data.toList p.data.toList)]) ∧ w' = w := Any.strings_CutPrefix Tryz.lays103 s p w
def Tryz.lays122_ren : Go.Shelf.Ren := ⟨fun | 122 => 44 | 215 => 63 | n => n, fun | 3 => 3 | 4 => 4 | n => n, fun | n => n⟩
theorem Tryz.lays122 : Go.Proofs.Lays.n122 Tryz.prog Tryz.lays122_ren := {
  mixed := by kernel_rfl
  f122 := Tryz.func44.trans (congrArg some (by kernel_rfl))
  f215 := Tryz.func63.trans (congrArg some (by kernel_rfl))
  t3 := Tryz.underlying3
  a3 := Tryz.isAgg3
  z3 := Tryz.sizeOf3
  v3 := Tryz.zeroValue3
  t4 := Tryz.underlying4
  a4 := Tryz.isAgg4
  z4 := Tryz.sizeOf4
  v4 := Tryz.zeroValue4 }
open Go.RowKit in
theorem Tryz.cmp_Compare_int (x y : Int) (w : World) :
    Calls Tryz.prog 44 #[.int .i64 x, .int .i64 y] w fun e w' => e = .returned (.int .i64 (Lib.compareInt x y)) ∧ w' = w := Any.cmp_Compare_int Tryz.lays122 x y w
def Tryz.lays171_ren : Go.Shelf.Ren := ⟨fun | 171 => 88 | 243 => 123 | 246 => 148 | 283 => 169 | 284 => 170 | 285 => 171 | 286 => 172 | 129 => 73 | 317 => 181 | 318 => 182 | 319 => 183 | 320 => 184 | 337 => 185 | 338 => 186 | n => n, fun | 3 => 3 | 9 => 9 | 2 => 2 | 4 => 4 | 171 => 209 | 0 => 0 | 53 => 119 | 37 => 139 | 5 => 5 | 173 => 211 | 212 => 226 | 51 => 117 | 20 => 20 | 213 => 227 | 46 => 91 | 232 => 231 | 233 => 232 | n => n, fun | 17 => 5 | 18 => 6 | 19 => 7 | n => n⟩
theorem Tryz.lays171 : Go.Proofs.Lays.n171 Tryz.prog Tryz.lays171_ren := {
  mixed := by kernel_rfl
  f129 := Tryz.func73.trans (congrArg some (by kernel_rfl))
  f171 := Tryz.func88.trans (congrArg some (by kernel_rfl))
  f243 := Tryz.func123.trans (congrArg some (by kernel_rfl))
  f246 := Tryz.func148.trans (congrArg some (by kernel_rfl))
  f283 := Tryz.func169.trans (congrArg some (by kernel_rfl))
  f284 := Tryz.func170.trans (congrArg some (by kernel_rfl))
  f285 := Tryz.func171.trans (congrArg some (by kernel_rfl))
  f286 := Tryz.func172.trans (congrArg some (by kernel_rfl))
  f317 := Tryz.func181.trans (congrArg some (by kernel_rfl))
  f318 := Tryz.func182.trans (congrArg some (by kernel_rfl))
  f319 := Tryz.func183.trans (congrArg some (by kernel_rfl))
  f320 := Tryz.func184.trans (congrArg some (by kernel_rfl))
  f337 := Tryz.func185.trans (congrArg some (by kernel_rfl))
  f338 := Tryz.func186.trans (congrArg some (by kernel_rfl))
  t0 := Tryz.underlying0
  a0 := Tryz.isAgg0
  z0 := Tryz.sizeOf0
  v0 := Tryz.zeroValue0
  t2 := Tryz.underlying2
  a2 := Tryz.isAgg2
  z2 := Tryz.sizeOf2
  v2 := Tryz.zeroValue2
  t3 := Tryz.underlying3
  a3 := Tryz.isAgg3
  z3 := Tryz.sizeOf3
  v3 := Tryz.zeroValue3
  t4 := Tryz.underlying4
  a4 := Tryz.isAgg4
  z4 := Tryz.sizeOf4
  v4 := Tryz.zeroValue4
  t5 := Tryz.underlying5
  a5 := Tryz.isAgg5
  z5 := Tryz.sizeOf5
  v5 := Tryz.zeroValue5
  t9 := Tryz.underlying9
  a9 := Tryz.isAgg9
  z9 := Tryz.sizeOf9
  v9 := Tryz.zeroValue9
  t20 := Tryz.underlying20
  a20 := Tryz.isAgg20
  z20 := Tryz.sizeOf20
  v20 := Tryz.zeroValue20
  t37 := Tryz.underlying139
  a37 := Tryz.isAgg139
  z37 := Tryz.sizeOf139
  v37 := Tryz.zeroValue139
  t46 := Tryz.underlying91
  a46 := Tryz.isAgg91
  z46 := Tryz.sizeOf91
  v46 := Tryz.zeroValue91
  t51 := Tryz.underlying117
  a51 := Tryz.isAgg117
  z51 := Tryz.sizeOf117
  v51 := Tryz.zeroValue117
  t53 := Tryz.underlying119
  a53 := Tryz.isAgg119
  z53 := Tryz.sizeOf119
  v53 := Tryz.zeroValue119
  t171 := Tryz.underlying209
  a171 := Tryz.isAgg209
  z171 := Tryz.sizeOf209
  v171 := Tryz.zeroValue209
  t173 := Tryz.underlying211
  a173 := Tryz.isAgg211
  z173 := Tryz.sizeOf211
  v173 := Tryz.zeroValue211
  t212 := Tryz.underlying226
  a212 := Tryz.isAgg226
  z212 := Tryz.sizeOf226
  v212 := Tryz.zeroValue226
  t213 := Tryz.underlying227
  a213 := Tryz.isAgg227
  z213 := Tryz.sizeOf227
  t232 := Tryz.underlying231
  a232 := Tryz.isAgg231
  z232 := Tryz.sizeOf231
  v232 := Tryz.zeroValue231
  t233 := Tryz.underlying232
  a233 := Tryz.isAgg232
  z233 := Tryz.sizeOf232
  v233 := Tryz.zeroValue232
  g17 := by kernel_rfl
  g18 := by kernel_rfl
  g19 := by kernel_rfl }
open Go.RowKit Go.Sort Go.Lib in
theorem Tryz.strconv_Itoa_small (i : Nat) (hi : i < 100) (w : World) :
    Calls Tryz.prog 88 #[.int .i64 i] w fun e w' => e = .returned (.string ⟨(Lib.decDigits i).toArray⟩) ∧ w' = w := Any.strconv_Itoa_small Tryz.lays171 i hi w
def Tryz.laysPu14_ren : Go.Shelf.Ren := ⟨fun | 14 => 118 | 16 => 142 | 17 => 143 | 19 => 162 | 20 => 163 | 21 => 164 | 22 => 165 | 23 => 166 | 24 => 167 | 25 => 179 | 27 => 88 | 26 => 180 | 28 => 123 | 29 => 148 | 30 => 169 | 31 => 170 | 32 => 171 | 33 => 172 | 35 => 73 | 34 => 181 | 36 => 182 | 37 => 183 | 38 => 184 | 39 => 185 | 40 => 186 | n => n, fun | 9 => 9 | 3 => 3 | 22 => 119 | 24 => 163 | 25 => 164 | 4 => 4 | 34 => 204 | 5 => 5 | 36 => 91 | 37 => 139 | 0 => 0 | 39 => 206 | 21 => 21 | 44 => 223 | 47 => 198 | 50 => 230 | 48 => 228 | 2 => 2 | 52 => 209 | 55 => 211 | 59 => 226 | 60 => 117 | 20 => 20 | 61 => 227 | 65 => 231 | 66 => 232 | 67 => 100 | n => n, fun | 0 => 3 | 1 => 4 | 2 => 5 | 3 => 6 | 4 => 7 | n => n⟩
theorem Tryz.laysPu14 : Go.Proofs.LaysPu.n14 Tryz.prog Tryz.laysPu14_ren := {
  mixed := by kernel_rfl
  f14 := Tryz.func118.trans (congrArg some (by kernel_rfl))
  f16 := Tryz.func142.trans (congrArg some (by kernel_rfl))
  f17 := Tryz.func143.trans (congrArg some (by kernel_rfl))
  f19 := Tryz.func162.trans (congrArg some (by kernel_rfl))
  f20 := Tryz.func163.trans (congrArg some (by kernel_rfl))
  f21 := Tryz.func164.trans (congrArg some (by kernel_rfl))
  f22 := Tryz.func165.trans (congrArg some (by kernel_rfl))
  f23 := Tryz.func166.trans (congrArg some (by kernel_rfl))
  f24 := Tryz.func167.trans (congrArg some (by kernel_rfl))
  f25 := Tryz.func179.trans (congrArg some (by kernel_rfl))
  f26 := Tryz.func180.trans (congrArg some (by kernel_rfl))
  f27 := Tryz.func88.trans (congrArg some (by kernel_rfl))
  f28 := Tryz.func123.trans (congrArg some (by kernel_rfl))
  f29 := Tryz.func148.trans (congrArg some (by kernel_rfl))
  f30 := Tryz.func169.trans (congrArg some (by kernel_rfl))
  f31 := Tryz.func170.trans (congrArg some (by kernel_rfl))
  f32 := Tryz.func171.trans (congrArg some (by kernel_rfl))
  f33 := Tryz.func172.trans (congrArg some (by kernel_rfl))
  f34 := Tryz.func181.trans (congrArg some (by kernel_rfl))
  f35 := Tryz.func73.trans (congrArg some (by kernel_rfl))
  f36 := Tryz.func182.trans (congrArg some (by kernel_rfl))
  f37 := Tryz.func183.trans (congrArg some (by kernel_rfl))
  f38 := Tryz.func184.trans (congrArg some (by kernel_rfl))
  f39 := Tryz.func185.trans (congrArg some (by kernel_rfl))
  f40 := Tryz.func186.trans (congrArg some (by kernel_rfl))
  t0 := Tryz.underlying0
  a0 := Tryz.isAgg0
  z0 := Tryz.sizeOf0
  v0 := Tryz.zeroValue0
  i0 := by kernel_rfl
  t2 := Tryz.underlying2
  a2 := Tryz.isAgg2
  z2 := Tryz.sizeOf2
  v2 := Tryz.zeroValue2
  i2 := by kernel_rfl
  t3 := Tryz.underlying3
  a3 := Tryz.isAgg3
  z3 := Tryz.sizeOf3
  v3 := Tryz.zeroValue3
  i3 := by kernel_rfl
  t4 := Tryz.underlying4
  a4 := Tryz.isAgg4
  z4 := Tryz.sizeOf4
  v4 := Tryz.zeroValue4
  i4 := by kernel_rfl
  t5 := Tryz.underlying5
  a5 := Tryz.isAgg5
  z5 := Tryz.sizeOf5
  v5 := Tryz.zeroValue5
  i5 := by kernel_rfl
  t9 := Tryz.underlying9
  a9 := Tryz.isAgg9
  z9 := Tryz.sizeOf9
  v9 := Tryz.zeroValue9
  i9 := by kernel_rfl
  t20 := Tryz.underlying20
  a20 := Tryz.isAgg20
  z20 := Tryz.sizeOf20
  v20 := Tryz.zeroValue20
  i20 := by kernel_rfl
  t21 := Tryz.underlying21
  a21 := Tryz.isAgg21
  z21 := Tryz.sizeOf21
  v21 := Tryz.zeroValue21
  i21 := by kernel_rfl
  t22 := Tryz.underlying119
  a22 := Tryz.isAgg119
  z22 := Tryz.sizeOf119
  v22 := Tryz.zeroValue119
  i22 := by kernel_rfl
  t24 := Tryz.underlying163
  a24 := Tryz.isAgg163
  z24 := Tryz.sizeOf163
  v24 := Tryz.zeroValue163
  i24 := by kernel_rfl
  t25 := Tryz.underlying164
  a25 := Tryz.isAgg164
  z25 := Tryz.sizeOf164
  v25 := Tryz.zeroValue164
  i25 := by kernel_rfl
  t34 := Tryz.underlying204
  a34 := Tryz.isAgg204
  z34 := Tryz.sizeOf204
  v34 := Tryz.zeroValue204
  i34 := by kernel_rfl
  c34 := by kernel_rfl
  t36 := Tryz.underlying91
  a36 := Tryz.isAgg91
  z36 := Tryz.sizeOf91
  v36 := Tryz.zeroValue91
  i36 := by kernel_rfl
  t37 := Tryz.underlying139
  a37 := Tryz.isAgg139
  z37 := Tryz.sizeOf139
  v37 := Tryz.zeroValue139
  i37 := by kernel_rfl
  t39 := Tryz.underlying206
  a39 := Tryz.isAgg206
  z39 := Tryz.sizeOf206
  v39 := Tryz.zeroValue206
  i39 := by kernel_rfl
  t44 := Tryz.underlying223
  a44 := Tryz.isAgg223
  z44 := Tryz.sizeOf223
  v44 := Tryz.zeroValue223
  i44 := by kernel_rfl
  t47 := Tryz.underlying198
  a47 := Tryz.isAgg198
  z47 := Tryz.sizeOf198
  v47 := Tryz.zeroValue198
  i47 := by kernel_rfl
  t48 := Tryz.underlying228
  a48 := Tryz.isAgg228
  z48 := Tryz.sizeOf228
  v48 := Tryz.zeroValue228
  i48 := by kernel_rfl
  t50 := Tryz.underlying230
  a50 := Tryz.isAgg230
  z50 := Tryz.sizeOf230
  v50 := Tryz.zeroValue230
  i50 := by kernel_rfl
  t52 := Tryz.underlying209
  a52 := Tryz.isAgg209
  z52 := Tryz.sizeOf209
  v52 := Tryz.zeroValue209
  i52 := by kernel_rfl
  t55 := Tryz.underlying211
  a55 := Tryz.isAgg211
  z55 := Tryz.sizeOf211
  v55 := Tryz.zeroValue211
  i55 := by kernel_rfl
  t59 := Tryz.underlying226
  a59 := Tryz.isAgg226
  z59 := Tryz.sizeOf226
  v59 := Tryz.zeroValue226
  i59 := by kernel_rfl
  t60 := Tryz.underlying117
  a60 := Tryz.isAgg117
  z60 := Tryz.sizeOf117
  v60 := Tryz.zeroValue117
  i60 := by kernel_rfl
  t61 := Tryz.underlying227
  a61 := Tryz.isAgg227
  z61 := Tryz.sizeOf227
  t65 := Tryz.underlying231
  a65 := Tryz.isAgg231
  z65 := Tryz.sizeOf231
  v65 := Tryz.zeroValue231
  i65 := by kernel_rfl
  t66 := Tryz.underlying232
  a66 := Tryz.isAgg232
  z66 := Tryz.sizeOf232
  v66 := Tryz.zeroValue232
  i66 := by kernel_rfl
  t67 := Tryz.underlying100
  a67 := Tryz.isAgg100
  z67 := Tryz.sizeOf100
  v67 := Tryz.zeroValue100
  i67 := by kernel_rfl
  g0 := by kernel_rfl
  m0 := by kernel_rfl
  g1 := by kernel_rfl
  m1 := by kernel_rfl
  g2 := by kernel_rfl
  m2 := by kernel_rfl
  g3 := by kernel_rfl
  m3 := by kernel_rfl
  g4 := by kernel_rfl
  m4 := by kernel_rfl }
open Go.RowKit in
theorem Tryz.strconv_ParseUint_10_at32_ok (s : ByteArray) (hmax : s.size ≤ 9223372036854775806) (u : Nat) (h : Lib.parseUintB 32 s.data.toList = .ok u) (w : World) :
    Calls Tryz.prog 118 #[.string s, .int .i64 10, .int .i64 32] w fun e w' => e = .returned (.tuple #[.int .u64 u, .nilIface]) ∧ (w' = w ∨ w' = Lib.bytesWorld w 5 s) := Any.strconv_ParseUint_10_at32_ok Tryz.laysPu14 s hmax u h w
def Tryz.lays219_ren : Go.Shelf.Ren := ⟨fun | 219 => 134 | 217 => 154 | 225 => 155 | 224 => 156 | 267 => 157 | 266 => 175 | 314 => 176 | n => n, fun | 9 => 9 | 3 => 3 | 4 => 4 | 5 => 5 | 46 => 91 | 146 => 194 | 51 => 117 | n => n, fun | 1 => 0 | n => n⟩
theorem Tryz.lays219 : Go.Proofs.Lays.n219 Tryz.prog Tryz.lays219_ren := {
  mixed := by kernel_rfl
  f217 := Tryz.func154.trans (congrArg some (by kernel_rfl))
  f219 := Tryz.func134.trans (congrArg some (by kernel_rfl))
  f224 := Tryz.func156.trans (congrArg some (by kernel_rfl))
  f225 := Tryz.func155.trans (congrArg some (by kernel_rfl))
  f266 := Tryz.func175.trans (congrArg some (by kernel_rfl))
  f267 := Tryz.func157.trans (congrArg some (by kernel_rfl))
  f314 := Tryz.func176.trans (congrArg some (by kernel_rfl))
  t3 := Tryz.underlying3
  a3 := Tryz.isAgg3
  z3 := Tryz.sizeOf3
  v3 := Tryz.zeroValue3
  t4 := Tryz.underlying4
  a4 := Tryz.isAgg4
  z4 := Tryz.sizeOf4
  v4 := Tryz.zeroValue4
  t5 := Tryz.underlying5
  a5 := Tryz.isAgg5
  z5 := Tryz.sizeOf5
  v5 := Tryz.zeroValue5
  t9 := Tryz.underlying9
  a9 := Tryz.isAgg9
  z9 := Tryz.sizeOf9
  v9 := Tryz.zeroValue9
  t46 := Tryz.underlying91
  a46 := Tryz.isAgg91
  z46 := Tryz.sizeOf91
  v46 := Tryz.zeroValue91
  t51 := Tryz.underlying117
  a51 := Tryz.isAgg117
  z51 := Tryz.sizeOf117
  v51 := Tryz.zeroValue117
  t146 := Tryz.underlying194
  a146 := Tryz.isAgg194
  z146 := Tryz.sizeOf194
  v146 := Tryz.zeroValue194
  g1 := by kernel_rfl }
open Go.RowKit Go.Lib in
theorem Tryz.stringslite_Index_one (s : ByteArray) (c : UInt8) (w : World) :
    Calls Tryz.prog 134 #[.string s, .string ⟨#[c]⟩] w fun e w' => e = .returned (.int .i64 (Lib.indexByte s.data.toList c)) ∧ w' = w := Any.stringslite_Index_one Tryz.lays219 s c w
def Tryz.laysGw17_ren : Go.Shelf.Ren := ⟨fun | 17 => 116 | 15 => 141 | 20 => 161 | n => n, fun | 9 => 9 | 23 => 161 | 4 => 4 | 3 => 3 | 0 => 0 | 21 => 21 | n => n, fun | n => n⟩
theorem Tryz.laysGw17 : Go.Proofs.LaysGw.n17 Tryz.prog Tryz.laysGw17_ren := {
  mixed := by kernel_rfl
  f15 := Tryz.func141.trans (congrArg some (by kernel_rfl))
  f17 := Tryz.func116.trans (congrArg some (by kernel_rfl))
  f20 := Tryz.func161.trans (congrArg some (by kernel_rfl))
  t0 := Tryz.underlying0
  a0 := Tryz.isAgg0
  z0 := Tryz.sizeOf0
  v0 := Tryz.zeroValue0
  i0 := by kernel_rfl
  t3 := Tryz.underlying3
  a3 := Tryz.isAgg3
  z3 := Tryz.sizeOf3
  v3 := Tryz.zeroValue3
  i3 := by kernel_rfl
  t4 := Tryz.underlying4
  a4 := Tryz.isAgg4
  z4 := Tryz.sizeOf4
  v4 := Tryz.zeroValue4
  i4 := by kernel_rfl
  t9 := Tryz.underlying9
  a9 := Tryz.isAgg9
  z9 := Tryz.sizeOf9
  v9 := Tryz.zeroValue9
  i9 := by kernel_rfl
  t21 := Tryz.underlying21
  a21 := Tryz.isAgg21
  z21 := Tryz.sizeOf21
  v21 := Tryz.zeroValue21
  i21 := by kernel_rfl
  t23 := Tryz.underlying161
  a23 := Tryz.isAgg161
  z23 := Tryz.sizeOf161
  v23 := Tryz.zeroValue161
  i23 := by kernel_rfl }
def Tryz.lays101_ren : Go.Shelf.Ren := ⟨fun | 101 => 76 | 208 => 107 | 206 => 135 | n => n, fun | 9 => 9 | 4 => 4 | 3 => 3 | n => n, fun | n => n⟩
theorem Tryz.lays101 : Go.Proofs.Lays.n101 Tryz.prog Tryz.lays101_ren := {
  mixed := by kernel_rfl
  f101 := Tryz.func76.trans (congrArg some (by kernel_rfl))
  f206 := Tryz.func135.trans (congrArg some (by kernel_rfl))
  f208 := Tryz.func107.trans (congrArg some (by kernel_rfl))
  t3 := Tryz.underlying3
  a3 := Tryz.isAgg3
  z3 := Tryz.sizeOf3
  v3 := Tryz.zeroValue3
  t4 := Tryz.underlying4
  a4 := Tryz.isAgg4
  z4 := Tryz.sizeOf4
  v4 := Tryz.zeroValue4
  t9 := Tryz.underlying9
  a9 := Tryz.isAgg9
  z9 := Tryz.sizeOf9
  v9 := Tryz.zeroValue9 }
open Go.RowKit Go.Lib in
theorem Tryz.strings_TrimPrefix (s p : ByteArray) (w : World) :
    Calls Tryz.prog 76 #[.string s, .string p] w fun e w' => e = .returned (.string ⟨(Lib.trimPrefix s.data.toList p.data.toList).toArray⟩) ∧ w' = w := Any.strings_TrimPrefix Tryz.lays101 s p w
open Go.RowKit Go.Lib in
theorem Tryz.strings_ContainsFunc_grows (g : Nat) (lb : Array Value) (eg : ∀ args w, (callFunc g args).run Tryz.prog w = .ok (.enter g args) w) (p : Nat → Bool) (s : ByteArray) (w : World) (hp : PredGrows Tryz.prog g lb p w) :
    Calls Tryz.prog 116 #[.string s, .func (.func g) #[] lb] w fun e w' => e = .returned (.bool (decide (0 ≤ Lib.idxFunc p true s))) ∧ Below w.heap.size w w' := Any.strings_ContainsFunc_grows Tryz.laysGw17 g lb eg p s w hp
def Tryz.sortC_ren : Go.Shelf.Ren := ⟨fun | 6 => 39 | 15 => 46 | 14 => 62 | 28 => 72 | 29 => 73 | 20 => 93 | 21 => 94 | 22 => 95 | 23 => 96 | 24 => 97 | 25 => 98 | 26 => 99 | 27 => 100 | 46 => 130 | 47 => 102 | 48 => 103 | 49 => 131 | 50 => 132 | 57 => 153 | n => n, fun | 22 => 61 | 24 => 52 | 25 => 82 | 3 => 3 | 39 => 91 | 0 => 0 | 53 => 117 | 55 => 119 | 4 => 4 | 46 => 110 | 45 => 109 | 50 => 114 | 5 => 5 | 9 => 9 | 66 => 145 | 70 => 149 | 76 => 181 | 77 => 182 | n => n, fun | n => n⟩
theorem Tryz.sortC : Go.Proofs.SlLaysF0.n6 Tryz.prog Tryz.sortC_ren := {
  mixed := by kernel_rfl
  f6 := ⟨Tryz.f39.name, by decide, Tryz.func39.trans (congrArg some (by kernel_rfl))⟩
  f14 := ⟨Tryz.f62.name, by decide, Tryz.func62.trans (congrArg some (by kernel_rfl))⟩
  f15 := Tryz.func46.trans (congrArg some (by kernel_rfl))
  f20 := ⟨Tryz.f93.name, by decide, Tryz.func93.trans (congrArg some (by kernel_rfl))⟩
  f21 := ⟨Tryz.f94.name, by decide, Tryz.func94.trans (congrArg some (by kernel_rfl))⟩
  f22 := ⟨Tryz.f95.name, by decide, Tryz.func95.trans (congrArg some (by kernel_rfl))⟩
  f23 := ⟨Tryz.f96.name, by decide, Tryz.func96.trans (congrArg some (by kernel_rfl))⟩
  f24 := ⟨Tryz.f97.name, by decide, Tryz.func97.trans (congrArg some (by kernel_rfl))⟩
  f25 := ⟨Tryz.f98.name, by decide, Tryz.func98.trans (congrArg some (by kernel_rfl))⟩
  f26 := ⟨Tryz.f99.name, by decide, Tryz.func99.trans (congrArg some (by kernel_rfl))⟩
  f27 := ⟨Tryz.f100.name, by decide, Tryz.func100.trans (congrArg some (by kernel_rfl))⟩
  f28 := Tryz.func72.trans (congrArg some (by kernel_rfl))
  f29 := Tryz.func73.trans (congrArg some (by kernel_rfl))
  f46 := ⟨Tryz.f130.name, by decide, Tryz.func130.trans (congrArg some (by kernel_rfl))⟩
  f47 := Tryz.func102.trans (congrArg some (by kernel_rfl))
  f48 := Tryz.func103.trans (congrArg some (by kernel_rfl))
  f49 := ⟨Tryz.f131.name, by decide, Tryz.func131.trans (congrArg some (by kernel_rfl))⟩
  f50 := ⟨Tryz.f132.name, by decide, Tryz.func132.trans (congrArg some (by kernel_rfl))⟩
  f57 := ⟨Tryz.f153.name, by decide, Tryz.func153.trans (congrArg some (by kernel_rfl))⟩
  t0 := Tryz.underlying0
  a0 := Tryz.isAgg0
  z0 := Tryz.sizeOf0
  v0 := Tryz.zeroValue0
  t3 := Tryz.underlying3
  a3 := Tryz.isAgg3
  z3 := Tryz.sizeOf3
  v3 := Tryz.zeroValue3
  t4 := Tryz.underlying4
  a4 := Tryz.isAgg4
  z4 := Tryz.sizeOf4
  v4 := Tryz.zeroValue4
  t5 := Tryz.underlying5
  a5 := Tryz.isAgg5
  z5 := Tryz.sizeOf5
  v5 := Tryz.zeroValue5
  t9 := Tryz.underlying9
  a9 := Tryz.isAgg9
  z9 := Tryz.sizeOf9
  v9 := Tryz.zeroValue9
  t22 := Tryz.underlying61
  a22 := Tryz.isAgg61
  z22 := Tryz.sizeOf61
  v22 := Tryz.zeroValue61
  t25 := Tryz.underlying82
  a25 := Tryz.isAgg82
  z25 := Tryz.sizeOf82
  v25 := Tryz.zeroValue82
  t39 := Tryz.underlying91
  a39 := Tryz.isAgg91
  z39 := Tryz.sizeOf91
  v39 := Tryz.zeroValue91
  t45 := Tryz.underlying109
  a45 := Tryz.isAgg109
  z45 := Tryz.sizeOf109
  v45 := Tryz.zeroValue109
  t46 := Tryz.underlying110
  a46 := Tryz.isAgg110
  z46 := Tryz.sizeOf110
  v46 := Tryz.zeroValue110
  t50 := Tryz.underlying114
  a50 := Tryz.isAgg114
  z50 := Tryz.sizeOf114
  v50 := Tryz.zeroValue114
  t53 := Tryz.underlying117
  a53 := Tryz.isAgg117
  z53 := Tryz.sizeOf117
  v53 := Tryz.zeroValue117
  t55 := Tryz.underlying119
  a55 := Tryz.isAgg119
  z55 := Tryz.sizeOf119
  v55 := Tryz.zeroValue119
  t66 := Tryz.underlying145
  a66 := Tryz.isAgg145
  z66 := Tryz.sizeOf145
  v66 := Tryz.zeroValue145
  t70 := Tryz.underlying149
  a70 := Tryz.isAgg149
  z70 := Tryz.sizeOf149
  v70 := Tryz.zeroValue149
  t76 := Tryz.underlying181
  a76 := Tryz.isAgg181
  z76 := Tryz.sizeOf181
  v76 := Tryz.zeroValue181
  t77 := Tryz.underlying182
  a77 := Tryz.isAgg182
  z77 := Tryz.sizeOf182
  v77 := Tryz.zeroValue182 }
def Tryz.sortP_ren : Go.Shelf.Ren := ⟨fun | 6 => 20 | 15 => 46 | 14 => 45 | 28 => 72 | 29 => 73 | 20 => 64 | 21 => 65 | 22 => 66 | 23 => 67 | 24 => 68 | 25 => 69 | 26 => 70 | 27 => 71 | 46 => 101 | 47 => 102 | 48 => 103 | 49 => 104 | 50 => 105 | 57 => 133 | n => n, fun | 22 => 43 | 24 => 54 | 25 => 59 | 3 => 3 | 39 => 91 | 0 => 0 | 53 => 117 | 55 => 119 | 4 => 4 | 46 => 110 | 45 => 109 | 50 => 114 | 5 => 5 | 9 => 9 | 66 => 145 | 70 => 149 | 76 => 181 | 77 => 182 | n => n, fun | n => n⟩
theorem Tryz.sortP : Go.Proofs.SlLaysF0.n6 Tryz.prog Tryz.sortP_ren := {
  mixed := by kernel_rfl
  f6 := ⟨Tryz.f20.name, by decide, Tryz.func20.trans (congrArg some (by kernel_rfl))⟩
  f14 := ⟨Tryz.f45.name, by decide, Tryz.func45.trans (congrArg some (by kernel_rfl))⟩
  f15 := Tryz.func46.trans (congrArg some (by kernel_rfl))
  f20 := ⟨Tryz.f64.name, by decide, Tryz.func64.trans (congrArg some (by kernel_rfl))⟩
  f21 := ⟨Tryz.f65.name, by decide, Tryz.func65.trans (congrArg some (by kernel_rfl))⟩
  f22 := ⟨Tryz.f66.name, by decide, Tryz.func66.trans (congrArg some (by kernel_rfl))⟩
  f23 := ⟨Tryz.f67.name, by decide, Tryz.func67.trans (congrArg some (by kernel_rfl))⟩
  f24 := ⟨Tryz.f68.name, by decide, Tryz.func68.trans (congrArg some (by kernel_rfl))⟩
  f25 := ⟨Tryz.f69.name, by decide, Tryz.func69.trans (congrArg some (by kernel_rfl))⟩
  f26 := ⟨Tryz.f70.name, by decide, Tryz.func70.trans (congrArg some (by kernel_rfl))⟩
  f27 := ⟨Tryz.f71.name, by decide, Tryz.func71.trans (congrArg some (by kernel_rfl))⟩
  f28 := Tryz.func72.trans (congrArg some (by kernel_rfl))
  f29 := Tryz.func73.trans (congrArg some (by kernel_rfl))
  f46 := ⟨Tryz.f101.name, by decide, Tryz.func101.trans (congrArg some (by kernel_rfl))⟩
  f47 := Tryz.func102.trans (congrArg some (by kernel_rfl))
  f48 := Tryz.func103.trans (congrArg some (by kernel_rfl))
  f49 := ⟨Tryz.f104.name, by decide, Tryz.func104.trans (congrArg some (by kernel_rfl))⟩
  f50 := ⟨Tryz.f105.name, by decide, Tryz.func105.trans (congrArg some (by kernel_rfl))⟩
  f57 := ⟨Tryz.f133.name, by decide, Tryz.func133.trans (congrArg some (by kernel_rfl))⟩
  t0 := Tryz.underlying0
  a0 := Tryz.isAgg0
  z0 := Tryz.sizeOf0
  v0 := Tryz.zeroValue0
  t3 := Tryz.underlying3
  a3 := Tryz.isAgg3
  z3 := Tryz.sizeOf3
  v3 := Tryz.zeroValue3
  t4 := Tryz.underlying4
  a4 := Tryz.isAgg4
  z4 := Tryz.sizeOf4
  v4 := Tryz.zeroValue4
  t5 := Tryz.underlying5
  a5 := Tryz.isAgg5
  z5 := Tryz.sizeOf5
  v5 := Tryz.zeroValue5
  t9 := Tryz.underlying9
  a9 := Tryz.isAgg9
  z9 := Tryz.sizeOf9
  v9 := Tryz.zeroValue9
  t22 := Tryz.underlying43
  a22 := Tryz.isAgg43
  z22 := Tryz.sizeOf43
  v22 := Tryz.zeroValue43
  t25 := Tryz.underlying59
  a25 := Tryz.isAgg59
  z25 := Tryz.sizeOf59
  v25 := Tryz.zeroValue59
  t39 := Tryz.underlying91
  a39 := Tryz.isAgg91
  z39 := Tryz.sizeOf91
  v39 := Tryz.zeroValue91
  t45 := Tryz.underlying109
  a45 := Tryz.isAgg109
  z45 := Tryz.sizeOf109
  v45 := Tryz.zeroValue109
  t46 := Tryz.underlying110
  a46 := Tryz.isAgg110
  z46 := Tryz.sizeOf110
  v46 := Tryz.zeroValue110
  t50 := Tryz.underlying114
  a50 := Tryz.isAgg114
  z50 := Tryz.sizeOf114
  v50 := Tryz.zeroValue114
  t53 := Tryz.underlying117
  a53 := Tryz.isAgg117
  z53 := Tryz.sizeOf117
  v53 := Tryz.zeroValue117
  t55 := Tryz.underlying119
  a55 := Tryz.isAgg119
  z55 := Tryz.sizeOf119
  v55 := Tryz.zeroValue119
  t66 := Tryz.underlying145
  a66 := Tryz.isAgg145
  z66 := Tryz.sizeOf145
  v66 := Tryz.zeroValue145
  t70 := Tryz.underlying149
  a70 := Tryz.isAgg149
  z70 := Tryz.sizeOf149
  v70 := Tryz.zeroValue149
  t76 := Tryz.underlying181
  a76 := Tryz.isAgg181
  z76 := Tryz.sizeOf181
  v76 := Tryz.zeroValue181
  t77 := Tryz.underlying182
  a77 := Tryz.isAgg182
  z77 := Tryz.sizeOf182
  v77 := Tryz.zeroValue182 }
def Tryz.growP_ren : Go.Shelf.Ren := ⟨fun | 4 => 61 | n => n, fun | 22 => 43 | 25 => 54 | 3 => 3 | 4 => 4 | 9 => 9 | 20 => 20 | 0 => 0 | n => n, fun | n => n⟩
theorem Tryz.growP : Go.Proofs.Lays8.n4 Tryz.prog Tryz.growP_ren := {
  mixed := by kernel_rfl
  f4 := ⟨Tryz.f61.name, by decide, Tryz.func61.trans (congrArg some (by kernel_rfl))⟩
  t0 := Tryz.underlying0
  a0 := Tryz.isAgg0
  z0 := Tryz.sizeOf0
  v0 := Tryz.zeroValue0
  t3 := Tryz.underlying3
  a3 := Tryz.isAgg3
  z3 := Tryz.sizeOf3
  v3 := Tryz.zeroValue3
  t4 := Tryz.underlying4
  a4 := Tryz.isAgg4
  z4 := Tryz.sizeOf4
  v4 := Tryz.zeroValue4
  t9 := Tryz.underlying9
  a9 := Tryz.isAgg9
  z9 := Tryz.sizeOf9
  v9 := Tryz.zeroValue9
  t20 := Tryz.underlying20
  a20 := Tryz.isAgg20
  z20 := Tryz.sizeOf20
  v20 := Tryz.zeroValue20
  t22 := Tryz.underlying43
  a22 := Tryz.isAgg43
  z22 := Tryz.sizeOf43
  v22 := Tryz.zeroValue43 }
end Go.Proofs
