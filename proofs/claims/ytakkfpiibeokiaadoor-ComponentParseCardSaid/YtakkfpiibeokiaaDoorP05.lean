/- The kit's contracts of the library, laid at this seat by the kit's own tools. -/
import Derived.Shelf.Strings.Builder1
import Derived.Shelf.Strings.Builder2
import Derived.Shelf.Strings.OnBuilder
import Derived.Shelf.Small.Strs
import Derived.Shelf.Utf8.RuneCount
import Derived.Shelf.Strconv.Atoi
import Derived.Shelf.Strconv.Itoa0
import Derived.Shelf.Strconv.Itoa1
import Derived.Shelf.LaysM
import Derived.Shelf.Strconv.Itoa2
import Derived.Shelf.Strconv.Itoa3
import Derived.Shelf.Strconv.AtoiErrFast
import Derived.Shelf.Strconv.ParseIntEmpty
import Derived.Shelf.Strconv.AtoiFail
import Derived.Shelf.Strconv.Clone
import Derived.Shelf.Strconv.SyntaxError
import Derived.Shelf.LaysC
import Derived.Shelf.Strconv.ToError
import Derived.Shelf.Strconv.Lower
import Derived.Shelf.Strconv.ParseUint10
import Derived.Shelf.Strconv.ParseUint10Empty
import Derived.Shelf.Strconv.ParseUint10Any
import Derived.Shelf.Strconv.ParseInt10
import Derived.Shelf.Strconv.AtoiLong
import Derived.Shelf.Strconv.AtoiInnerAll
import Derived.Shelf.Strconv.RangeError
import Derived.Shelf.Strconv.ToErrorRange
import Derived.Shelf.Strconv.AtoiAll
import Derived.Shelf.Strconv.ErrVarAll
import Derived.Shelf.Strings.Search1
import Derived.Shelf.Strings.Search2
import Derived.Shelf.Strings.Search3
import Derived.Shelf.Strings.Cut
import Derived.Shelf.Strings.Count
import Derived.Shelf.Strings.Shaped
import Derived.Shelf.Strings.Split
import Derived.Shelf.Strings.SplitShaped
import Derived.Shelf.Unicode.Latin
import Derived.Shelf.Unicode.Decode
import Derived.Shelf.Strings.RuneCount
import Derived.Shelf.Strings.Explode
import Derived.Shelf.Unicode.DecodeSlow
import Derived.Shelf.Unicode.DecodeAny
import Derived.Shelf.Unicode.Is16White
import Derived.Shelf.Unicode.IsSpaceAny
import Derived.Shelf.Unicode.Is16Any
import Derived.Shelf.Unicode.Is32Any
import Derived.Shelf.Unicode.ExclAny
import Derived.Test.YtakkfpiibeokiaaDoorProg
import Derived.KernelRfl
import Derived.Test.YtakkfpiibeokiaaDoorP04
import Derived.Lib.AppendIntMem
import Derived.Test.YtakkfpiibeokiaaDoorP03
import Derived.Lib.Join
import Derived.Lib.AtoiTie
import Derived.Lib.SmallJoins
import Derived.Lib.IndexBytes
import Derived.Lib.Split
import Derived.Lib.CountLaws
set_option linter.all false
namespace Go.Proofs.YtakkfpiibeokiaaDoor.Vm
open Go Go.Proofs Go.Shelf
def Tryd.lays156_ren : Go.Shelf.Ren := ⟨fun | 156 => 57 | 165 => 84 | 166 => 62 | 169 => 64 | 240 => 87 | 241 => 103 | 276 => 107 | 277 => 121 | n => n, fun | 31 => 73 | 9 => 9 | 3 => 3 | 4 => 4 | 0 => 0 | 20 => 20 | 72 => 85 | 76 => 68 | 70 => 82 | 37 => 83 | 75 => 67 | 127 => 115 | 164 => 130 | 5 => 5 | 80 => 90 | n => n, fun | n => n⟩
theorem Tryd.lays156 : Go.Proofs.Lays.n156 Tryd.prog Tryd.lays156_ren := {
  mixed := by kernel_rfl
  f156 := Tryd.func57.trans (congrArg some (by kernel_rfl))
  f165 := Tryd.func84.trans (congrArg some (by kernel_rfl))
  f166 := Tryd.func62.trans (congrArg some (by kernel_rfl))
  f169 := Tryd.func64.trans (congrArg some (by kernel_rfl))
  f240 := Tryd.func87.trans (congrArg some (by kernel_rfl))
  f241 := Tryd.func103.trans (congrArg some (by kernel_rfl))
  f276 := Tryd.func107.trans (congrArg some (by kernel_rfl))
  f277 := Tryd.func121.trans (congrArg some (by kernel_rfl))
  t0 := Tryd.underlying0
  a0 := Tryd.isAgg0
  z0 := Tryd.sizeOf0
  v0 := Tryd.zeroValue0
  t3 := Tryd.underlying3
  a3 := Tryd.isAgg3
  z3 := Tryd.sizeOf3
  v3 := Tryd.zeroValue3
  t4 := Tryd.underlying4
  a4 := Tryd.isAgg4
  z4 := Tryd.sizeOf4
  v4 := Tryd.zeroValue4
  t9 := Tryd.underlying9
  a9 := Tryd.isAgg9
  z9 := Tryd.sizeOf9
  v9 := Tryd.zeroValue9
  t20 := Tryd.underlying20
  a20 := Tryd.isAgg20
  z20 := Tryd.sizeOf20
  v20 := Tryd.zeroValue20
  t31 := Tryd.underlying73
  a31 := Tryd.isAgg73
  z31 := Tryd.sizeOf73
  v31 := Tryd.zeroValue73
  t37 := Tryd.underlying83
  a37 := Tryd.isAgg83
  z37 := Tryd.sizeOf83
  v37 := Tryd.zeroValue83
  t70 := Tryd.underlying82
  a70 := Tryd.isAgg82
  z70 := Tryd.sizeOf82
  v70 := Tryd.zeroValue82
  t72 := Tryd.underlying85
  a72 := Tryd.isAgg85
  z72 := Tryd.sizeOf85
  v72 := Tryd.zeroValue85
  t75 := Tryd.underlying67
  a75 := Tryd.isAgg67
  z75 := Tryd.sizeOf67
  v75 := Tryd.zeroValue67
  t76 := Tryd.underlying68
  a76 := Tryd.isAgg68
  z76 := Tryd.sizeOf68
  v76 := Tryd.zeroValue68
  t127 := Tryd.underlying115
  a127 := Tryd.isAgg115
  z127 := Tryd.sizeOf115
  v127 := Tryd.zeroValue115
  t164 := Tryd.underlying130
  a164 := Tryd.isAgg130
  z164 := Tryd.sizeOf130
  v164 := Tryd.zeroValue130 }
theorem Tryd.Builder_Extra_156 : Builder.Extra Tryd.prog Tryd.lays156_ren := {
  sizeBuilder := by kernel_rfl
  liesBuilder := by kernel_rfl
  t5 := Tryd.underlying5
  a5 := Tryd.isAgg5
  z5 := Tryd.sizeOf5
  v5 := Tryd.zeroValue5
  infoByte := by kernel_rfl
  cellsByte := by kernel_rfl
  sizeByte := by kernel_rfl
  neB5 := by decide }
open Go.RowKit in
theorem Tryd.strings_Join_none (a : Option Addr) (c : Nat) (sep : ByteArray) (w : World) :
    Calls Tryd.prog 57 #[.slice a 0 c, .string sep] w fun e w' => e = .returned (.string ⟨#[]⟩) ∧ w' = w := Any.strings_Join_none Tryd.lays156 Tryd.Builder_Extra_156 a c sep w
open Go.RowKit in
theorem Tryd.strings_Join (bk o c : Nat) (xs : List ByteArray) (sep : ByteArray) (w : World) (hcells : ∀ (j : Nat) x, xs[j]? = some x → w.cell? ⟨bk, o + j, none⟩ = some (.string x)) (hbk : bk < w.heap.size) (hN : xs.length ≤ 140737488355328) (hcap : xs.length ≤ c) (hlen : (Lib.join (xs.map (·.data.toList)) sep.data.toList).length ≤ 140737488355328) :
    Calls Tryd.prog 57 #[.slice (some ⟨bk, o, none⟩) xs.length c, .string sep] w fun e w' => e = .returned (.string ⟨(Lib.join (xs.map (·.data.toList)) sep.data.toList).toArray⟩) ∧ Below w.heap.size w w' := Any.strings_Join Tryd.lays156 Tryd.Builder_Extra_156 bk o c xs sep w hcells hbk hN hcap hlen
def Tryd.lays137_ren : Go.Shelf.Ren := ⟨fun | 137 => 53 | 217 => 81 | 266 => 102 | n => n, fun | 9 => 9 | 5 => 5 | 3 => 3 | n => n, fun | n => n⟩
theorem Tryd.lays137 : Go.Proofs.Lays.n137 Tryd.prog Tryd.lays137_ren := {
  mixed := by kernel_rfl
  f137 := Tryd.func53.trans (congrArg some (by kernel_rfl))
  f217 := Tryd.func81.trans (congrArg some (by kernel_rfl))
  f266 := Tryd.func102.trans (congrArg some (by kernel_rfl))
  t3 := Tryd.underlying3
  a3 := Tryd.isAgg3
  z3 := Tryd.sizeOf3
  v3 := Tryd.zeroValue3
  t5 := Tryd.underlying5
  a5 := Tryd.isAgg5
  z5 := Tryd.sizeOf5
  v5 := Tryd.zeroValue5
  t9 := Tryd.underlying9
  a9 := Tryd.isAgg9
  z9 := Tryd.sizeOf9
  v9 := Tryd.zeroValue9 }
open Go.RowKit in
theorem Tryd.strings_IndexByte (s : ByteArray) (c : Int) (w : World) :
    Calls Tryd.prog 53 #[.string s, .int .u8 c] w fun e w' => e = .returned (.int .i64 (Lib.indexByte s.data.toList c.toNat.toUInt8)) ∧ w' = w := Any.strings_IndexByte Tryd.lays137 s c w
def Tryd.laysM171_ren : Go.Shelf.Ren := ⟨fun | 171 => 51 | 243 => 78 | 246 => 96 | 283 => 114 | 284 => 115 | 285 => 116 | 286 => 117 | 129 => 132 | 317 => 131 | 318 => 133 | 319 => 134 | 320 => 135 | 337 => 141 | 338 => 142 | n => n, fun | 3 => 3 | 9 => 9 | 2 => 2 | 4 => 4 | 171 => 138 | 0 => 0 | 53 => 111 | 37 => 83 | 5 => 5 | 173 => 141 | 212 => 158 | 51 => 151 | 20 => 20 | 213 => 159 | 46 => 145 | 232 => 187 | 233 => 188 | n => n, fun | 17 => 5 | 18 => 8 | 19 => 9 | n => n⟩
theorem Tryd.laysM171 : Go.Proofs.LaysM.n171 Tryd.prog Tryd.laysM171_ren := {
  mixed := by kernel_rfl
  f129 := Tryd.func132.trans (congrArg some (by kernel_rfl))
  f171 := Tryd.func51.trans (congrArg some (by kernel_rfl))
  f243 := Tryd.func78.trans (congrArg some (by kernel_rfl))
  f246 := Tryd.func96.trans (congrArg some (by kernel_rfl))
  f283 := Tryd.func114.trans (congrArg some (by kernel_rfl))
  f284 := Tryd.func115.trans (congrArg some (by kernel_rfl))
  f285 := Tryd.func116.trans (congrArg some (by kernel_rfl))
  f286 := Tryd.func117.trans (congrArg some (by kernel_rfl))
  f317 := Tryd.func131.trans (congrArg some (by kernel_rfl))
  f318 := Tryd.func133.trans (congrArg some (by kernel_rfl))
  f319 := Tryd.func134.trans (congrArg some (by kernel_rfl))
  f320 := Tryd.func135.trans (congrArg some (by kernel_rfl))
  f337 := Tryd.func141.trans (congrArg some (by kernel_rfl))
  f338 := Tryd.func142.trans (congrArg some (by kernel_rfl))
  t0 := Tryd.underlying0
  a0 := Tryd.isAgg0
  z0 := Tryd.sizeOf0
  v0 := Tryd.zeroValue0
  t2 := Tryd.underlying2
  a2 := Tryd.isAgg2
  z2 := Tryd.sizeOf2
  v2 := Tryd.zeroValue2
  t3 := Tryd.underlying3
  a3 := Tryd.isAgg3
  z3 := Tryd.sizeOf3
  v3 := Tryd.zeroValue3
  t4 := Tryd.underlying4
  a4 := Tryd.isAgg4
  z4 := Tryd.sizeOf4
  v4 := Tryd.zeroValue4
  t5 := Tryd.underlying5
  a5 := Tryd.isAgg5
  z5 := Tryd.sizeOf5
  v5 := Tryd.zeroValue5
  t9 := Tryd.underlying9
  a9 := Tryd.isAgg9
  z9 := Tryd.sizeOf9
  v9 := Tryd.zeroValue9
  t20 := Tryd.underlying20
  a20 := Tryd.isAgg20
  z20 := Tryd.sizeOf20
  v20 := Tryd.zeroValue20
  t37 := Tryd.underlying83
  a37 := Tryd.isAgg83
  z37 := Tryd.sizeOf83
  v37 := Tryd.zeroValue83
  t46 := Tryd.underlying145
  a46 := Tryd.isAgg145
  z46 := Tryd.sizeOf145
  v46 := Tryd.zeroValue145
  t51 := Tryd.underlying151
  a51 := Tryd.isAgg151
  z51 := Tryd.sizeOf151
  v51 := Tryd.zeroValue151
  t53 := Tryd.underlying111
  a53 := Tryd.isAgg111
  z53 := Tryd.sizeOf111
  v53 := Tryd.zeroValue111
  t171 := Tryd.underlying138
  a171 := Tryd.isAgg138
  z171 := Tryd.sizeOf138
  v171 := Tryd.zeroValue138
  t173 := Tryd.underlying141
  a173 := Tryd.isAgg141
  z173 := Tryd.sizeOf141
  v173 := Tryd.zeroValue141
  t212 := Tryd.underlying158
  a212 := Tryd.isAgg158
  z212 := Tryd.sizeOf158
  v212 := Tryd.zeroValue158
  t213 := Tryd.underlying159
  a213 := Tryd.isAgg159
  z213 := Tryd.sizeOf159
  t232 := Tryd.underlying187
  a232 := Tryd.isAgg187
  z232 := Tryd.sizeOf187
  v232 := Tryd.zeroValue187
  t233 := Tryd.underlying188
  a233 := Tryd.isAgg188
  z233 := Tryd.sizeOf188
  v233 := Tryd.zeroValue188
  g17 := by kernel_rfl
  g18 := by kernel_rfl
  g19 := by kernel_rfl
  i0 := by kernel_rfl
  i2 := by kernel_rfl
  i3 := by kernel_rfl
  i4 := by kernel_rfl
  i5 := by kernel_rfl
  i9 := by kernel_rfl
  i20 := by kernel_rfl
  i37 := by kernel_rfl
  i46 := by kernel_rfl
  i51 := by kernel_rfl
  i53 := by kernel_rfl
  i171 := by kernel_rfl
  i173 := by kernel_rfl
  i212 := by kernel_rfl
  i232 := by kernel_rfl
  i233 := by kernel_rfl
  m17 := by kernel_rfl
  m18 := by kernel_rfl
  m19 := by kernel_rfl }
open Go.RowKit Go.Sort Go.Lib in
theorem Tryd.strconv_Itoa (n : Int) (h0 : -9223372036854775808 ≤ n) (h1 : n ≤ 9223372036854775807) (w : World) (htab : Lib.TabIs Tryd.prog w "internal/strconv.uint64pow10" .u64 Lib.pow10Tab) :
    Calls Tryd.prog 51 #[.int .i64 n] w fun e w' => e = .returned (.string ⟨(Lib.itoa n).toArray⟩) ∧ ∃ k os, w' = grow (w.drewN k) os := Any.strconv_Itoa Tryd.laysM171 n h0 h1 w htab
def Tryd.laysC172_ren : Go.Shelf.Ren := ⟨fun | 172 => 52 | 244 => 79 | 245 => 80 | 247 => 97 | 279 => 98 | 280 => 99 | 281 => 100 | 282 => 101 | 287 => 118 | 316 => 119 | 171 => 51 | 205 => 120 | 321 => 136 | 322 => 137 | 243 => 78 | 246 => 96 | 283 => 114 | 284 => 115 | 285 => 116 | 286 => 117 | 129 => 132 | 317 => 131 | 318 => 133 | 319 => 134 | 320 => 135 | 337 => 141 | 338 => 142 | n => n, fun | 9 => 9 | 3 => 3 | 75 => 67 | 76 => 68 | 4 => 4 | 5 => 5 | 167 => 122 | 37 => 83 | 0 => 0 | 85 => 123 | 2 => 2 | 168 => 125 | 53 => 111 | 175 => 143 | 46 => 145 | 210 => 148 | 127 => 115 | 145 => 165 | 143 => 163 | 21 => 21 | 171 => 138 | 173 => 141 | 212 => 158 | 51 => 151 | 20 => 20 | 213 => 159 | 232 => 187 | 233 => 188 | 80 => 90 | n => n, fun | 15 => 1 | 16 => 2 | 17 => 5 | 18 => 8 | 19 => 9 | n => n⟩
theorem Tryd.laysC172 : Go.Proofs.LaysC.n172 Tryd.prog Tryd.laysC172_ren := {
  mixed := by kernel_rfl
  f129 := Tryd.func132.trans (congrArg some (by kernel_rfl))
  f171 := Tryd.func51.trans (congrArg some (by kernel_rfl))
  f172 := Tryd.func52.trans (congrArg some (by kernel_rfl))
  f205 := Tryd.func120.trans (congrArg some (by kernel_rfl))
  f243 := Tryd.func78.trans (congrArg some (by kernel_rfl))
  f244 := Tryd.func79.trans (congrArg some (by kernel_rfl))
  f245 := Tryd.func80.trans (congrArg some (by kernel_rfl))
  f246 := Tryd.func96.trans (congrArg some (by kernel_rfl))
  f247 := Tryd.func97.trans (congrArg some (by kernel_rfl))
  f279 := Tryd.func98.trans (congrArg some (by kernel_rfl))
  f280 := Tryd.func99.trans (congrArg some (by kernel_rfl))
  f281 := Tryd.func100.trans (congrArg some (by kernel_rfl))
  f282 := Tryd.func101.trans (congrArg some (by kernel_rfl))
  f283 := Tryd.func114.trans (congrArg some (by kernel_rfl))
  f284 := Tryd.func115.trans (congrArg some (by kernel_rfl))
  f285 := Tryd.func116.trans (congrArg some (by kernel_rfl))
  f286 := Tryd.func117.trans (congrArg some (by kernel_rfl))
  f287 := Tryd.func118.trans (congrArg some (by kernel_rfl))
  f316 := Tryd.func119.trans (congrArg some (by kernel_rfl))
  f317 := Tryd.func131.trans (congrArg some (by kernel_rfl))
  f318 := Tryd.func133.trans (congrArg some (by kernel_rfl))
  f319 := Tryd.func134.trans (congrArg some (by kernel_rfl))
  f320 := Tryd.func135.trans (congrArg some (by kernel_rfl))
  f321 := Tryd.func136.trans (congrArg some (by kernel_rfl))
  f322 := Tryd.func137.trans (congrArg some (by kernel_rfl))
  f337 := Tryd.func141.trans (congrArg some (by kernel_rfl))
  f338 := Tryd.func142.trans (congrArg some (by kernel_rfl))
  t0 := Tryd.underlying0
  a0 := Tryd.isAgg0
  z0 := Tryd.sizeOf0
  v0 := Tryd.zeroValue0
  t2 := Tryd.underlying2
  a2 := Tryd.isAgg2
  z2 := Tryd.sizeOf2
  v2 := Tryd.zeroValue2
  t3 := Tryd.underlying3
  a3 := Tryd.isAgg3
  z3 := Tryd.sizeOf3
  v3 := Tryd.zeroValue3
  t4 := Tryd.underlying4
  a4 := Tryd.isAgg4
  z4 := Tryd.sizeOf4
  v4 := Tryd.zeroValue4
  t5 := Tryd.underlying5
  a5 := Tryd.isAgg5
  z5 := Tryd.sizeOf5
  v5 := Tryd.zeroValue5
  t9 := Tryd.underlying9
  a9 := Tryd.isAgg9
  z9 := Tryd.sizeOf9
  v9 := Tryd.zeroValue9
  t20 := Tryd.underlying20
  a20 := Tryd.isAgg20
  z20 := Tryd.sizeOf20
  v20 := Tryd.zeroValue20
  t21 := Tryd.underlying21
  a21 := Tryd.isAgg21
  z21 := Tryd.sizeOf21
  v21 := Tryd.zeroValue21
  t37 := Tryd.underlying83
  a37 := Tryd.isAgg83
  z37 := Tryd.sizeOf83
  v37 := Tryd.zeroValue83
  t46 := Tryd.underlying145
  a46 := Tryd.isAgg145
  z46 := Tryd.sizeOf145
  v46 := Tryd.zeroValue145
  t51 := Tryd.underlying151
  a51 := Tryd.isAgg151
  z51 := Tryd.sizeOf151
  v51 := Tryd.zeroValue151
  t53 := Tryd.underlying111
  a53 := Tryd.isAgg111
  z53 := Tryd.sizeOf111
  v53 := Tryd.zeroValue111
  t75 := Tryd.underlying67
  a75 := Tryd.isAgg67
  z75 := Tryd.sizeOf67
  v75 := Tryd.zeroValue67
  t76 := Tryd.underlying68
  a76 := Tryd.isAgg68
  z76 := Tryd.sizeOf68
  v76 := Tryd.zeroValue68
  t85 := Tryd.underlying123
  a85 := Tryd.isAgg123
  z85 := Tryd.sizeOf123
  v85 := Tryd.zeroValue123
  t127 := Tryd.underlying115
  a127 := Tryd.isAgg115
  z127 := Tryd.sizeOf115
  v127 := Tryd.zeroValue115
  t143 := Tryd.underlying163
  a143 := Tryd.isAgg163
  z143 := Tryd.sizeOf163
  v143 := Tryd.zeroValue163
  t145 := Tryd.underlying165
  a145 := Tryd.isAgg165
  z145 := Tryd.sizeOf165
  v145 := Tryd.zeroValue165
  t167 := Tryd.underlying122
  a167 := Tryd.isAgg122
  z167 := Tryd.sizeOf122
  v167 := Tryd.zeroValue122
  t168 := Tryd.underlying125
  a168 := Tryd.isAgg125
  z168 := Tryd.sizeOf125
  v168 := Tryd.zeroValue125
  t171 := Tryd.underlying138
  a171 := Tryd.isAgg138
  z171 := Tryd.sizeOf138
  v171 := Tryd.zeroValue138
  t173 := Tryd.underlying141
  a173 := Tryd.isAgg141
  z173 := Tryd.sizeOf141
  v173 := Tryd.zeroValue141
  t175 := Tryd.underlying143
  a175 := Tryd.isAgg143
  z175 := Tryd.sizeOf143
  v175 := Tryd.zeroValue143
  t210 := Tryd.underlying148
  a210 := Tryd.isAgg148
  z210 := Tryd.sizeOf148
  v210 := Tryd.zeroValue148
  t212 := Tryd.underlying158
  a212 := Tryd.isAgg158
  z212 := Tryd.sizeOf158
  v212 := Tryd.zeroValue158
  t213 := Tryd.underlying159
  a213 := Tryd.isAgg159
  z213 := Tryd.sizeOf159
  t232 := Tryd.underlying187
  a232 := Tryd.isAgg187
  z232 := Tryd.sizeOf187
  v232 := Tryd.zeroValue187
  t233 := Tryd.underlying188
  a233 := Tryd.isAgg188
  z233 := Tryd.sizeOf188
  v233 := Tryd.zeroValue188
  g15 := by kernel_rfl
  g16 := by kernel_rfl
  g17 := by kernel_rfl
  g18 := by kernel_rfl
  g19 := by kernel_rfl
  t80 := Tryd.underlying90
  a80 := Tryd.isAgg90
  z80 := Tryd.sizeOf90
  v80 := Tryd.zeroValue90
  i0 := by kernel_rfl
  i2 := by kernel_rfl
  i3 := by kernel_rfl
  i4 := by kernel_rfl
  i5 := by kernel_rfl
  i9 := by kernel_rfl
  i20 := by kernel_rfl
  i21 := by kernel_rfl
  i37 := by kernel_rfl
  i46 := by kernel_rfl
  i51 := by kernel_rfl
  i53 := by kernel_rfl
  i75 := by kernel_rfl
  i76 := by kernel_rfl
  i80 := by kernel_rfl
  i85 := by kernel_rfl
  i127 := by kernel_rfl
  i143 := by kernel_rfl
  i145 := by kernel_rfl
  i167 := by kernel_rfl
  i168 := by kernel_rfl
  i171 := by kernel_rfl
  i173 := by kernel_rfl
  i175 := by kernel_rfl
  i210 := by kernel_rfl
  i212 := by kernel_rfl
  i232 := by kernel_rfl
  i233 := by kernel_rfl
  m15 := by kernel_rfl
  m16 := by kernel_rfl
  m17 := by kernel_rfl
  m18 := by kernel_rfl
  m19 := by kernel_rfl
  c0 := by kernel_rfl
  c2 := by kernel_rfl
  c3 := by kernel_rfl
  c4 := by kernel_rfl
  c5 := by kernel_rfl
  c9 := by kernel_rfl
  c20 := by kernel_rfl
  c21 := by kernel_rfl
  c37 := by kernel_rfl
  c46 := by kernel_rfl
  c51 := by kernel_rfl
  c53 := by kernel_rfl
  c75 := by kernel_rfl
  c76 := by kernel_rfl
  c80 := by kernel_rfl
  c85 := by kernel_rfl
  c127 := by kernel_rfl
  c143 := by kernel_rfl
  c145 := by kernel_rfl
  c167 := by kernel_rfl
  c168 := by kernel_rfl
  c171 := by kernel_rfl
  c173 := by kernel_rfl
  c175 := by kernel_rfl
  c210 := by kernel_rfl
  c212 := by kernel_rfl
  c213 := by kernel_rfl
  c232 := by kernel_rfl
  c233 := by kernel_rfl }
open Go.RowKit in
theorem Tryd.strconv_Atoi_ok (s : ByteArray) (hmax : s.size ≤ 9223372036854775806) (v : Int) (h : Lib.atoiAll s.data.toList = .ok v) (w : World) :
    Calls Tryd.prog 52 #[.string s] w fun e w' => e = .returned (.tuple #[.int .i64 v, .nilIface]) ∧ (w' = w ∨ ∃ t, w' = Lib.bytesWorld w 5 t) := Any.strconv_Atoi_ok Tryd.laysC172 s hmax v h w
open Go.RowKit in
theorem Tryd.strconv_Atoi_syntax (s : ByteArray) (hlim : s.size ≤ 281474976710656) (h : Lib.atoiAll s.data.toList = .«syntax») (ev : Value) (w : World) (hv : w.cell? ⟨1, 0, none⟩ = some ev) (hev : ev = .nilIface ∨ ∃ te pe, ev = .iface te pe) :
    Calls Tryd.prog 52 #[.string s] w fun e w' => ∃ N, e = .returned (.tuple #[.int .i64 (0), .iface 125 (.pointer (some ⟨N, 0, none⟩))]) ∧ w.heap.size ≤ N ∧ w'.heap[N]? = some (.cells #[.string ⟨#[65, 116, 111, 105]⟩, .string s, ev] 148 (0, 0)) ∧ Below w.heap.size w w' := Any.strconv_Atoi_syntax Tryd.laysC172 s hlim h ev w hv hev
open Go.RowKit in
theorem Tryd.strconv_Atoi_range (s : ByteArray) (hlim : s.size ≤ 281474976710656) (h : Lib.atoiAll s.data.toList = .range) (ev : Value) (w : World) (hv : w.cell? ⟨2, 0, none⟩ = some ev) (hev : ev = .nilIface ∨ ∃ te pe, ev = .iface te pe) :
    Calls Tryd.prog 52 #[.string s] w fun e w' => ∃ N, e = .returned (.tuple #[.int .i64 (Lib.atoiSat s.data.toList), .iface 125 (.pointer (some ⟨N, 0, none⟩))]) ∧ w.heap.size ≤ N ∧ w'.heap[N]? = some (.cells #[.string ⟨#[65, 116, 111, 105]⟩, .string s, ev] 148 (0, 0)) ∧ Below w.heap.size w w' := Any.strconv_Atoi_range Tryd.laysC172 s hlim h ev w hv hev
def Tryd.lays145_ren : Go.Shelf.Ren := ⟨fun | 145 => 74 | 220 => 94 | 219 => 113 | 217 => 81 | 225 => 128 | 224 => 129 | 267 => 130 | 266 => 102 | 314 => 140 | n => n, fun | 9 => 9 | 4 => 4 | 59 => 104 | 3 => 3 | 5 => 5 | 46 => 145 | 146 => 182 | 51 => 151 | n => n, fun | 1 => 3 | n => n⟩
theorem Tryd.lays145 : Go.Proofs.Lays.n145 Tryd.prog Tryd.lays145_ren := {
  mixed := by kernel_rfl
  f145 := Tryd.func74.trans (congrArg some (by kernel_rfl))
  f217 := Tryd.func81.trans (congrArg some (by kernel_rfl))
  f219 := Tryd.func113.trans (congrArg some (by kernel_rfl))
  f220 := Tryd.func94.trans (congrArg some (by kernel_rfl))
  f224 := Tryd.func129.trans (congrArg some (by kernel_rfl))
  f225 := Tryd.func128.trans (congrArg some (by kernel_rfl))
  f266 := Tryd.func102.trans (congrArg some (by kernel_rfl))
  f267 := Tryd.func130.trans (congrArg some (by kernel_rfl))
  f314 := Tryd.func140.trans (congrArg some (by kernel_rfl))
  t3 := Tryd.underlying3
  a3 := Tryd.isAgg3
  z3 := Tryd.sizeOf3
  v3 := Tryd.zeroValue3
  t4 := Tryd.underlying4
  a4 := Tryd.isAgg4
  z4 := Tryd.sizeOf4
  v4 := Tryd.zeroValue4
  t5 := Tryd.underlying5
  a5 := Tryd.isAgg5
  z5 := Tryd.sizeOf5
  v5 := Tryd.zeroValue5
  t9 := Tryd.underlying9
  a9 := Tryd.isAgg9
  z9 := Tryd.sizeOf9
  v9 := Tryd.zeroValue9
  t46 := Tryd.underlying145
  a46 := Tryd.isAgg145
  z46 := Tryd.sizeOf145
  v46 := Tryd.zeroValue145
  t51 := Tryd.underlying151
  a51 := Tryd.isAgg151
  z51 := Tryd.sizeOf151
  v51 := Tryd.zeroValue151
  t59 := Tryd.underlying104
  a59 := Tryd.isAgg104
  z59 := Tryd.sizeOf104
  v59 := Tryd.zeroValue104
  t146 := Tryd.underlying182
  a146 := Tryd.isAgg182
  z146 := Tryd.sizeOf182
  v146 := Tryd.zeroValue182
  g1 := by kernel_rfl }
open Go.RowKit Go.Lib in
theorem Tryd.strings_Cut (s sep : ByteArray) (m : Int) (w : World) (hs : s.size < 4294967281) (hm : w.cell? ⟨3, 0, none⟩ = some (.int .i64 m)) :
    Calls Tryd.prog 74 #[.string s, .string sep] w fun e w' => e = .returned (.tuple #[.string ⟨(Lib.cut s.data.toList sep.data.toList).1.toArray⟩, .string ⟨(Lib.cut s.data.toList sep.data.toList).2.1.toArray⟩, .bool (Lib.cut s.data.toList sep.data.toList).2.2]) ∧ ∃ n, w' = w.drewN n := Any.strings_Cut Tryd.lays145 s sep m w hs hm
def Tryd.lays146_ren : Go.Shelf.Ren := ⟨fun | 146 => 58 | 221 => 85 | 268 => 104 | 138 => 105 | 143 => 106 | 195 => 122 | 197 => 109 | 218 => 123 | 219 => 113 | 260 => 124 | 217 => 81 | 225 => 128 | 224 => 129 | 267 => 130 | 266 => 102 | 314 => 140 | n => n, fun | 9 => 9 | 31 => 73 | 3 => 3 | 4 => 4 | 0 => 0 | 105 => 133 | 21 => 21 | 5 => 5 | 46 => 145 | 119 => 132 | 139 => 168 | 138 => 167 | 146 => 182 | 51 => 151 | n => n, fun | 1 => 3 | 3 => 6 | 4 => 7 | n => n⟩
theorem Tryd.lays146 : Go.Proofs.Lays.n146 Tryd.prog Tryd.lays146_ren := {
  mixed := by kernel_rfl
  f138 := Tryd.func105.trans (congrArg some (by kernel_rfl))
  f143 := Tryd.func106.trans (congrArg some (by kernel_rfl))
  f146 := Tryd.func58.trans (congrArg some (by kernel_rfl))
  f195 := Tryd.func122.trans (congrArg some (by kernel_rfl))
  f197 := Tryd.func109.trans (congrArg some (by kernel_rfl))
  f217 := Tryd.func81.trans (congrArg some (by kernel_rfl))
  f218 := Tryd.func123.trans (congrArg some (by kernel_rfl))
  f219 := Tryd.func113.trans (congrArg some (by kernel_rfl))
  f221 := Tryd.func85.trans (congrArg some (by kernel_rfl))
  f224 := Tryd.func129.trans (congrArg some (by kernel_rfl))
  f225 := Tryd.func128.trans (congrArg some (by kernel_rfl))
  f260 := Tryd.func124.trans (congrArg some (by kernel_rfl))
  f266 := Tryd.func102.trans (congrArg some (by kernel_rfl))
  f267 := Tryd.func130.trans (congrArg some (by kernel_rfl))
  f268 := Tryd.func104.trans (congrArg some (by kernel_rfl))
  f314 := Tryd.func140.trans (congrArg some (by kernel_rfl))
  t0 := Tryd.underlying0
  a0 := Tryd.isAgg0
  z0 := Tryd.sizeOf0
  v0 := Tryd.zeroValue0
  t3 := Tryd.underlying3
  a3 := Tryd.isAgg3
  z3 := Tryd.sizeOf3
  v3 := Tryd.zeroValue3
  t4 := Tryd.underlying4
  a4 := Tryd.isAgg4
  z4 := Tryd.sizeOf4
  v4 := Tryd.zeroValue4
  t5 := Tryd.underlying5
  a5 := Tryd.isAgg5
  z5 := Tryd.sizeOf5
  v5 := Tryd.zeroValue5
  t9 := Tryd.underlying9
  a9 := Tryd.isAgg9
  z9 := Tryd.sizeOf9
  v9 := Tryd.zeroValue9
  t21 := Tryd.underlying21
  a21 := Tryd.isAgg21
  z21 := Tryd.sizeOf21
  v21 := Tryd.zeroValue21
  t31 := Tryd.underlying73
  a31 := Tryd.isAgg73
  z31 := Tryd.sizeOf73
  v31 := Tryd.zeroValue73
  t46 := Tryd.underlying145
  a46 := Tryd.isAgg145
  z46 := Tryd.sizeOf145
  v46 := Tryd.zeroValue145
  t51 := Tryd.underlying151
  a51 := Tryd.isAgg151
  z51 := Tryd.sizeOf151
  v51 := Tryd.zeroValue151
  t105 := Tryd.underlying133
  a105 := Tryd.isAgg133
  z105 := Tryd.sizeOf133
  v105 := Tryd.zeroValue133
  t119 := Tryd.underlying132
  a119 := Tryd.isAgg132
  z119 := Tryd.sizeOf132
  t138 := Tryd.underlying167
  a138 := Tryd.isAgg167
  z138 := Tryd.sizeOf167
  v138 := Tryd.zeroValue167
  t139 := Tryd.underlying168
  a139 := Tryd.isAgg168
  z139 := Tryd.sizeOf168
  v139 := Tryd.zeroValue168
  t146 := Tryd.underlying182
  a146 := Tryd.isAgg182
  z146 := Tryd.sizeOf182
  v146 := Tryd.zeroValue182
  g1 := by kernel_rfl
  g3 := by kernel_rfl
  g4 := by kernel_rfl }
open Go.RowKit Go.Lib in
theorem Tryd.strings_Split (s sep : ByteArray) (m : Int) (w : World) (hs : s.size < 4294967281) (hm : w.cell? ⟨3, 0, none⟩ = some (.int .i64 m)) (h1 : 1 ≤ sep.size) :
    Calls Tryd.prog 58 #[.string s, .string sep] w fun e w' =>
      e = .returned (.slice (some ⟨w.heap.size, 0, none⟩) (Lib.countB s sep + 1) (Lib.countB s sep + 1)) ∧ w' = w.alloc (.cells ((Lib.splitB sep 0 (Lib.countB s sep) s).map Value.string).toArray 9) := Any.strings_Split Tryd.lays146 (by kernel_rfl) s sep m w hs hm h1
end Go.Proofs.YtakkfpiibeokiaaDoor.Vm
/- Contracts: texts of numbers, by the kit's contract of strconv.Itoa. -/
set_option linter.all false
namespace Go.Proofs.YtakkfpiibeokiaaDoor.Vm
open Go
set_option maxRecDepth 100000
set_option maxHeartbeats 4000000
theorem tabPow {st : Nat → Nat → Prop} {w : World} (h : Tabs.ok st w) : Lib.TabIs Tryd.prog w "internal/strconv.uint64pow10" .u64 Lib.pow10Tab := by
  obtain ⟨g, cs, k1, k2, k3, k4, k5⟩ := h "internal/strconv.uint64pow10" _ memPow
  subst k5
  exact k3
theorem known_of {fid : FuncId} {fn : Func} (hk : Known Tryd.prog fid fn) : ∃ fn, Tryd.prog.funcs[fid]? = some fn ∧ fn.body.isSome = true ∧ (fn.name == "runtime.NumGoroutine") = false := ⟨fn, hk.funcs, hk.body, hk.name⟩
theorem itoaR_c (n : Int) (h0 : -9223372036854775808 ≤ n) (h1 : n ≤ 9223372036854775807) : PureCall Tryd.prog F.strconv_Itoa [ai n] (.str (num n)) := by
  refine pure_of_calls (known_of K.strconv_Itoa) fun st w vals hlt htab hl hrel => ?_
  obtain ⟨v, rfl⟩ : ∃ v, vals = #[v] := by
    have : vals.size = 1 := hl.symm
    exact ⟨vals[0], by ext i hi hi'; omega; have : i = 0 := by omega
                       subst this; rfl⟩
  have hv := rel_int (hrel 0 _ v rfl rfl)
  subst hv
  refine (Tryd.strconv_Itoa n h0 h1 w (tabPow htab)).mono fun e w' ⟨he, k, os, hw⟩ => ?_
  subst hw
  exact ⟨_, he, Lib.below_grow _ w (Nat.le_refl _) k os, .str _⟩
theorem numC : NumC := fun n h0 h1 => itoaR_c n (by omega) (by omega)
end Go.Proofs.YtakkfpiibeokiaaDoor.Vm
/- Contracts: components' arcs. -/
set_option linter.all false
namespace Go.Proofs.YtakkfpiibeokiaaDoor.Vm
open Go
set_option maxRecDepth 100000
set_option maxHeartbeats 4000000

/-- of an arc, by its number -/
def Comp.arcN (t : Topology) (c : Comp) (a : Nat) : Bool := c.has ((a / 2 : Nat) : Int) (t.links.getD (a / 2) default)
theorem arcN_eq (t : Topology) (c : Comp) (a : Nat) : c.arc t (a : Int) = c.arcN t a := by
  have e : ((a : Int) / 2) = ((a / 2 : Nat) : Int) := by omega
  simp only [Comp.arc, Comp.arcN, Topology.at_, e, Int.toNat_natCast]
def maskF (n : Nat) (f : Nat → Bool) : List Bool := (List.range n).map f
def eMask (n : Nat) (f : Nat → Bool) : List (List AV) := (List.range n).map fun a => [.bool (f a)]
theorem eMask_eq (n : Nat) (f : Nat → Bool) : (maskF n f).map eBool = eMask n f := by simp [maskF, eMask, eBool]
theorem eMask_len (n : Nat) (f : Nat → Bool) : (eMask n f).length = n := by simp [eMask]
theorem eMask_zero (n : Nat) : eMask n (fun _ => false) = List.replicate n [.bool false] := by simp [eMask, List.map_const']
theorem eMask_get {n a : Nat} (f : Nat → Bool) (h : a < n) : (eMask n f)[a]? = some [.bool (f a)] := by simp [eMask, h]
theorem eMask_set (n a : Nat) (f : Nat → Bool) : (eMask n f).set a [.bool true] = eMask n (fun k => f k || decide (k = a)) := by
  apply List.ext_getElem?
  intro k
  rw [List.getElem?_set]
  by_cases hk : k < n
  · rw [eMask_get _ hk, eMask_get _ hk, eMask_len]
    by_cases e : a = k
    · subst e; rw [if_pos rfl, if_pos hk]; simp
    · rw [if_neg e]; simp [show ¬ k = a by omega]
  · have h1 : (eMask n f)[k]? = none := List.getElem?_eq_none (by rw [eMask_len]; omega)
    have h2 : (eMask n (fun k => f k || decide (k = a)))[k]? = none := List.getElem?_eq_none (by rw [eMask_len]; omega)
    rw [h1, h2, eMask_len]
    split
    · split
      · omega
      · rfl
    · rfl
theorem eMask_congr {n : Nat} {f g : Nat → Bool} (h : ∀ a, a < n → f a = g a) : eMask n f = eMask n g := by
  unfold eMask; apply List.map_congr_left; intro a ha; rw [h a (List.mem_range.1 ha)]

def unionB (t : Topology) (cs : List Comp) : List Bool × Int :=
  if t.valid = true ∧ cs.all (·.valid t) = true then (maskF (2 * t.links.length) fun a => cs.any fun c => c.arcN t a, 0) else ([], 1)
theorem all_no {cs : List Comp} {t : Topology} {j : Nat} (hj : j < cs.length) (h : (cs[j]).valid t = false) : cs.all (·.valid t) = false := by
  rw [List.all_eq_false]; exact ⟨cs[j], List.getElem_mem hj, by simp [h]⟩
theorem take_any {cs : List Comp} {t : Topology} {j : Nat} (hj : j < cs.length) (a : Nat) : (cs.take (j + 1)).any (fun c => c.arcN t a) = ((cs.take j).any (fun c => c.arcN t a) || (cs[j]).arcN t a) := by
  rw [List.take_succ_eq_append_getElem hj, List.any_append]; simp
theorem all_take {cs : List Comp} {t : Topology} {j : Nat} (hj : j < cs.length) (h : (cs.take j).all (·.valid t) = true) (h1 : (cs[j]).valid t = true) : (cs.take (j + 1)).all (·.valid t) = true := by
  rw [List.take_succ_eq_append_getElem hj, List.all_append, h]; simp [h1]

theorem arcN_has {t : Topology} {c : Comp} {i a : Nat} (hi : i < t.links.length) (ha : a / 2 = i) {b : Bool} (h : c.has (i : Int) t.links[i] = b) : c.arcN t a = b := by
  rw [Comp.arcN, ha, getD_at hi]; exact h
theorem mask_yes {t : Topology} {c : Comp} {X : Nat → Bool} {i : Nat} (hi : i < t.links.length) (h : c.has (i : Int) t.links[i] = true) (a : Nat) :
    (((X a || (decide (a / 2 < i) && c.arcN t a)) || decide (a = 2 * i)) || decide (a = 2 * i + 1)) = (X a || (decide (a / 2 < i + 1) && c.arcN t a)) := by
  by_cases e : a / 2 = i
  · rw [arcN_has hi e h, decide_eq_true (show a / 2 < i + 1 by omega), decide_eq_false (show ¬ a / 2 < i by omega)]
    rcases (show a = 2 * i ∨ a = 2 * i + 1 by omega) with h2 | h2
    · rw [decide_eq_true h2]; simp
    · rw [decide_eq_true h2]; simp
  · rw [decide_eq_false (show ¬ a = 2 * i by omega), decide_eq_false (show ¬ a = 2 * i + 1 by omega), show decide (a / 2 < i + 1) = decide (a / 2 < i) from decide_eq_decide.2 (by omega)]; simp
theorem mask_no {t : Topology} {c : Comp} {X : Nat → Bool} {i : Nat} (hi : i < t.links.length) (h : c.has (i : Int) t.links[i] = false) (a : Nat) :
    (X a || (decide (a / 2 < i) && c.arcN t a)) = (X a || (decide (a / 2 < i + 1) && c.arcN t a)) := by
  by_cases e : a / 2 = i
  · rw [arcN_has hi e h]; simp
  · rw [show decide (a / 2 < i + 1) = decide (a / 2 < i) from decide_eq_decide.2 (by omega)]
theorem union_c (t : Topology) (cs : List Comp) (hc : cs.length < 4611686018427387904) : PureCall Tryd.prog F.component_Union [.agg t.enc, asl (cs.map Comp.enc)] (.tuple [asl ((unionB t cs).1.map eBool), ai (unionB t cs).2]) := by
  refine contractS fits K.component_Union ?_
  have hlm : (t.links.map Link.enc).length = t.links.length := List.length_map ..
  have hcm : (cs.map Comp.enc).length = cs.length := List.length_map ..
  repeat' (first
      | ((with_reducible refine step ?_); conv => whnf) | ((with_reducible refine br_dec (fun h => ?_) (fun h => ?_)) <;> try (exfalso; omega)) | ((with_reducible refine br_ndec (fun h => ?_) (fun h => ?_)) <;> try (exfalso; omega)) | (with_reducible refine br_not (fun h => ?_) (fun h => ?_)) | (with_reducible refine And.intro (fun h => ?_) (fun h => ?_))
      | (refine call_pure (valid_c t) rfl rfl ?_; conv => whnf)
      | fail)
  · rw [unionB, if_neg (by simp [*])]; rfl
  have hv : t.valid = true := by assumption
  have hll := valid_links hv
  have hw2 : IntKind.i64.wrap (2 * ((t.links.map Link.enc).length : Int)) = 2 * t.links.length := by rw [hlm, wrap_in (by omega)]
  repeat' (first
      | ((with_reducible refine step ?_); conv => whnf) | ((with_reducible refine br_dec (fun h => ?_) (fun h => ?_)) <;> try (exfalso; omega)) | ((with_reducible refine br_ndec (fun h => ?_) (fun h => ?_)) <;> try (exfalso; omega)) | (with_reducible refine br_not (fun h => ?_) (fun h => ?_)) | (with_reducible refine And.intro (fun h => ?_) (fun h => ?_))
      | (refine And.intro (by rw [hw2]; simp only [big]; omega) ?_; conv => whnf)
      | fail)
  refine loop_invS (fun j => j ≤ cs.length ∧ (cs.take j).all (·.valid t) = true) [2, 6, 19, 20, 21] 2 (fun j => [(21, ai j)]) (fun j => [(1, .arr 0 1 (some false) (eMask (2 * t.links.length) fun a => (cs.take j).any fun c => c.arcN t a) false)]) (fun j => cs.length - j) 0 (by decide) (by decide) ?_
  conv => whnf
  refine ⟨rfl, ?_, ⟨by omega, by simp⟩, fun j ⟨hj, hp⟩ => ?_⟩
  · have e0 : (eMask (2 * t.links.length) fun a => (cs.take 0).any fun c => c.arcN t a) = List.replicate (IntKind.i64.wrap (2 * ((t.links.map Link.enc).length : Int))).toNat [AV.bool false] := by
      rw [hw2, show (2 * (t.links.length : Int)).toNat = 2 * t.links.length by omega, ← eMask_zero]; rfl
    rw [← e0]; rfl
  have hm0 : ∀ f, (eMask (2 * t.links.length) f).length = 2 * t.links.length := fun f => eMask_len ..
  repeat' (first
      | ((with_reducible refine step ?_); conv => whnf) | ((with_reducible refine br_dec (fun h => ?_) (fun h => ?_)) <;> try (exfalso; omega)) | ((with_reducible refine br_ndec (fun h => ?_) (fun h => ?_)) <;> try (exfalso; omega)) | (with_reducible refine br_not (fun h => ?_) (fun h => ?_)) | (with_reducible refine And.intro (fun h => ?_) (fun h => ?_))
      | (have hlt : j < cs.length := (by omega); refine idx_nat hlt rfl ?_; conv => whnf)
      | (refine call_pure (compValid_c t _) rfl rfl ?_; conv => whnf)
      | fail)
  · have hlt : j < cs.length := by omega
    rw [unionB, if_neg (fun hq => by
      have := all_no (t := t) hlt (by assumption)
      rw [this] at hq; exact nomatch hq.2)]; rfl
  · have hlt : j < cs.length := by omega
    have hcv : (cs[j]).valid t = true := by assumption
    refine loop_invS (fun i => i ≤ t.links.length) [2, 6, 8, 19, 20, 21, 30, 31, 32] 3 (fun i => [(32, ai i)]) (fun i => [(1, .arr 0 1 (some false) (eMask (2 * t.links.length) fun a => ((cs.take j).any fun c => c.arcN t a) || (decide (a / 2 < i) && (cs[j]).arcN t a)) false)]) (fun i => t.links.length - i) 0 (by decide) (by decide) ?_
    conv => whnf
    refine ⟨rfl, ?_, by omega, fun i hi => ?_⟩
    · have e0 : (eMask (2 * t.links.length) fun a => ((cs.take j).any fun c => c.arcN t a) || (decide (a / 2 < 0) && (cs[j]).arcN t a)) = eMask (2 * t.links.length) fun a => (cs.take j).any fun c => c.arcN t a := eMask_congr fun a _ => by simp
      rw [e0]; rfl
    have hm1 : ∀ f, (eMask (2 * t.links.length) f).length = 2 * t.links.length := fun f => eMask_len ..
    repeat' (first
      | ((with_reducible refine step ?_); conv => whnf) | ((with_reducible refine br_dec (fun h => ?_) (fun h => ?_)) <;> try (exfalso; omega)) | ((with_reducible refine br_ndec (fun h => ?_) (fun h => ?_)) <;> try (exfalso; omega)) | (with_reducible refine br_not (fun h => ?_) (fun h => ?_)) | (with_reducible refine And.intro (fun h => ?_) (fun h => ?_))
      | (have hlt : i < t.links.length := (by omega); refine idx_nat hlt rfl ?_; conv => whnf)
      | (refine call_pure (compOf_c _ _ _) rfl rfl ?_; conv => whnf)
      | (have hlt : i < t.links.length := (by omega); have w2 := wrap_in (show -9223372036854775808 ≤ 2 * (i : Int) ∧ 2 * (i : Int) ≤ 9223372036854775807 by omega); have w3 := wrap_in (show -9223372036854775808 ≤ 2 * (i : Int) + 1 ∧ 2 * (i : Int) + 1 ≤ 9223372036854775807 by omega); refine And.intro ⟨rfl, (by first | (rw [w2]; omega) | (rw [w2, w3]; omega)), (by first | (rw [eMask_len, w2]; omega) | (rw [List.length_set, eMask_len, w2, w3]; omega))⟩ ?_; conv => whnf)
      | (refine idx_at (j := 2 * i) rfl (by rw [w2]; omega) (eMask_get _ (by omega)) rfl ?_; conv => whnf)
      | (refine idx_at (j := 2 * i + 1) rfl (by rw [w2, w3]; omega) ((List.getElem?_set_ne (by rw [w2]; omega)).trans (eMask_get _ (by omega))) rfl ?_; conv => whnf)
      | fail)
    · refine ⟨i + 1, by omega, by omega, by rw [wrap_succ (by omega)]; rfl, ?_⟩
      have hlti : i < t.links.length := by omega
      have w2 : IntKind.i64.wrap (2 * (i : Int)) = 2 * i := wrap_in (by omega)
      have e1 : ((eMask (2 * t.links.length) fun a => ((cs.take j).any fun c => c.arcN t a) || (decide (a / 2 < i) && (cs[j]).arcN t a)).set (IntKind.i64.wrap (2 * (i : Int))).toNat [.bool true]).set (IntKind.i64.wrap (IntKind.i64.wrap (2 * (i : Int)) + 1)).toNat [.bool true] = eMask (2 * t.links.length) fun a => ((cs.take j).any fun c => c.arcN t a) || (decide (a / 2 < i + 1) && (cs[j]).arcN t a) := by
        rw [w2, wrap_in (by omega), show (2 * (i : Int)).toNat = 2 * i by omega, show (2 * (i : Int) + 1).toNat = 2 * i + 1 by omega, eMask_set, eMask_set]
        exact eMask_congr fun a _ => mask_yes (X := fun a => (cs.take j).any fun c => c.arcN t a) hlti (by assumption) a
      rw [← e1]; rfl
    · refine ⟨i + 1, by omega, by omega, by rw [wrap_succ (by omega)]; rfl, ?_⟩
      have hlti : i < t.links.length := by omega
      have e1 : (eMask (2 * t.links.length) fun a => ((cs.take j).any fun c => c.arcN t a) || (decide (a / 2 < i) && (cs[j]).arcN t a)) = eMask (2 * t.links.length) fun a => ((cs.take j).any fun c => c.arcN t a) || (decide (a / 2 < i + 1) && (cs[j]).arcN t a) :=
        eMask_congr fun a _ => mask_no (X := fun a => (cs.take j).any fun c => c.arcN t a) hlti (by assumption) a
      rw [← e1]; rfl
    · refine ⟨j + 1, ⟨by omega, all_take hlt hp hcv⟩, by omega, by rw [wrap_succ (by omega)]; rfl, ?_⟩
      have e1 : (eMask (2 * t.links.length) fun a => ((cs.take j).any fun c => c.arcN t a) || (decide (a / 2 < i) && (cs[j]).arcN t a)) = eMask (2 * t.links.length) fun a => (cs.take (j + 1)).any fun c => c.arcN t a := eMask_congr fun a ha => by
        rw [take_any hlt, decide_eq_true (show a / 2 < i by omega), Bool.true_and]
      rw [← e1]; rfl
  · obtain rfl : j = cs.length := by omega
    rw [List.take_length] at *
    rw [unionB, if_pos ⟨hv, hp⟩, eMask_eq]
end Go.Proofs.YtakkfpiibeokiaaDoor.Vm
/- Contracts: components' arcs, masks. -/
set_option linter.all false
namespace Go.Proofs.YtakkfpiibeokiaaDoor.Vm
open Go
set_option maxRecDepth 100000
set_option maxHeartbeats 4000000

theorem mask_c (t : Topology) (c : Comp) : PureCall Tryd.prog F.component_Mask [.agg t.enc, .agg c.enc] (.tuple [asl ((unionB t [c]).1.map eBool), ai (unionB t [c]).2]) := by
  refine contractS fits K.component_Mask ?_
  repeat' (first
      | ((with_reducible refine step ?_); conv => whnf) | ((with_reducible refine br_dec (fun h => ?_) (fun h => ?_)) <;> try (exfalso; omega)) | ((with_reducible refine br_ndec (fun h => ?_) (fun h => ?_)) <;> try (exfalso; omega)) | (with_reducible refine br_not (fun h => ?_) (fun h => ?_)) | (with_reducible refine And.intro (fun h => ?_) (fun h => ?_))
      | (refine call_pure (union_c t [c] (show 1 < 4611686018427387904 by decide)) rfl rfl ?_; conv => whnf)
      | fail)
  all_goals rfl
def sel (f : Nat → Bool) (i : Nat) : List Int := (((List.range i).filter f : List Nat)).map fun (a : Nat) => (a : Int)
theorem sel_len (f : Nat → Bool) (i : Nat) : (sel f i).length ≤ i := by
  unfold sel; rw [List.length_map]; exact Nat.le_trans (List.length_filter_le _ _) (by simp)
theorem sel_yes {f : Nat → Bool} {i : Nat} (h : f i = true) : sel f (i + 1) = sel f i ++ [(i : Int)] := by
  simp [sel, List.range_succ, List.filter_append, h]
theorem sel_no {f : Nat → Bool} {i : Nat} (h : f i = false) : sel f (i + 1) = sel f i := by
  simp [sel, List.range_succ, List.filter_append, h]
def arcsB (t : Topology) (c : Comp) : List Int × Int := if c.valid t = true then (sel (c.arcN t) (2 * t.links.length), 0) else ([], 1)
theorem union_one (t : Topology) (c : Comp) : unionB t [c] = if c.valid t = true then (maskF (2 * t.links.length) (c.arcN t), 0) else ([], 1) := by
  unfold unionB
  by_cases h : c.valid t = true
  · rw [if_pos ⟨validC_links h, by simp [h]⟩, if_pos h]; simp
  · rw [if_neg (fun hq => h (by simpa using hq.2)), if_neg h]

theorem arcsC_c (t : Topology) (c : Comp) : PureCall Tryd.prog F.component_Arcs [.agg t.enc, .agg c.enc] (.tuple [asl ((arcsB t c).1.map eInt), ai (arcsB t c).2]) := by
  refine contractS fits K.component_Arcs ?_
  have hm := mask_c t c
  rw [union_one] at hm
  rw [arcsB]
  by_cases hc : c.valid t = true
  · rw [if_pos hc] at hm ⊢
    have hll := valid_links (validC_links hc)
    rw [eMask_eq] at hm
    repeat' (first
      | ((with_reducible refine step ?_); conv => whnf) | ((with_reducible refine br_dec (fun h => ?_) (fun h => ?_)) <;> try (exfalso; omega)) | ((with_reducible refine br_ndec (fun h => ?_) (fun h => ?_)) <;> try (exfalso; omega)) | (with_reducible refine br_not (fun h => ?_) (fun h => ?_)) | (with_reducible refine And.intro (fun h => ?_) (fun h => ?_))
      | (refine call_pure hm rfl rfl ?_; conv => whnf)
      | fail)
    have hml : (eMask (2 * t.links.length) (c.arcN t)).length = 2 * t.links.length := eMask_len ..
    refine loop_promoteD (k := 8) (esz := 1) rfl (by decide) ?_
    refine loop_invS (fun i => i ≤ 2 * t.links.length) [8, 20, 21, 22] 3 (fun i => [(22, ai i)]) (fun i => [(2, .arr 0 1 none ((sel (c.arcN t) i).map eInt) false)]) (fun i => 2 * t.links.length - i) 0 (by decide) (by decide) ?_
    conv => whnf
    refine ⟨rfl, rfl, by omega, fun i hi => ?_⟩
    have hsl := sel_len (c.arcN t) i
    repeat' (first
      | ((with_reducible refine step ?_); conv => whnf) | ((with_reducible refine br_dec (fun h => ?_) (fun h => ?_)) <;> try (exfalso; omega)) | ((with_reducible refine br_ndec (fun h => ?_) (fun h => ?_)) <;> try (exfalso; omega)) | (with_reducible refine br_not (fun h => ?_) (fun h => ?_)) | (with_reducible refine And.intro (fun h => ?_) (fun h => ?_))
      | (have hlt : i < 2 * t.links.length := (by omega); refine idx_at (j := i) trivial rfl (eMask_get _ hlt) rfl ?_; conv => whnf)
      | (refine And.intro ?_ ?_; (focus (simp [elemsOk, AV.oneC, big]; (try omega); done)); conv => whnf)
      | fail)
    · exact ⟨i + 1, by omega, by omega, by rw [wrap_succ (by omega)]; rfl, by rw [sel_yes (by assumption), List.map_append]; rfl⟩
    · exact ⟨i + 1, by omega, by omega, by rw [wrap_succ (by omega)]; rfl, by rw [sel_no (by assumption)]; rfl⟩
    · obtain rfl : i = 2 * t.links.length := by omega
      rfl
  · rw [if_neg hc] at hm ⊢
    repeat' (first
      | ((with_reducible refine step ?_); conv => whnf) | ((with_reducible refine br_dec (fun h => ?_) (fun h => ?_)) <;> try (exfalso; omega)) | ((with_reducible refine br_ndec (fun h => ?_) (fun h => ?_)) <;> try (exfalso; omega)) | (with_reducible refine br_not (fun h => ?_) (fun h => ?_)) | (with_reducible refine And.intro (fun h => ?_) (fun h => ?_))
      | (refine call_pure hm rfl rfl ?_; conv => whnf)
      | fail)
    all_goals rfl
end Go.Proofs.YtakkfpiibeokiaaDoor.Vm
/- Contracts: all components. -/
set_option linter.all false
namespace Go.Proofs.YtakkfpiibeokiaaDoor.Vm
open Go
set_option maxRecDepth 100000
set_option maxHeartbeats 4000000

def nums (k : Int) (i : Nat) : List Comp := (List.range i).map fun (a : Nat) => (⟨k, a⟩ : Comp)
theorem nums_len (k : Int) (i : Nat) : (nums k i).length = i := by simp [nums]
theorem nums_succ (k : Int) (i : Nat) : nums k (i + 1) = nums k i ++ [⟨k, (i : Nat)⟩] := by simp [nums, List.range_succ]
def hasG (t : Topology) (g : Int) : Bool := t.links.any fun l => decide (l.group = g)
def grps (t : Topology) (i : Nat) : List Comp := ((List.range i).filter fun (a : Nat) => hasG t ((a : Int) + 1)).map fun (a : Nat) => (⟨3, (a : Int) + 1⟩ : Comp)
theorem grps_len (t : Topology) (i : Nat) : (grps t i).length ≤ i := by
  unfold grps; rw [List.length_map]; exact Nat.le_trans (List.length_filter_le _ _) (by simp)
theorem grps_yes {t : Topology} {i : Nat} (h : hasG t ((i : Int) + 1) = true) : grps t (i + 1) = grps t i ++ [⟨3, (i : Int) + 1⟩] := by
  simp [grps, List.range_succ, List.filter_append, h]
theorem grps_no {t : Topology} {i : Nat} (h : hasG t ((i : Int) + 1) = false) : grps t (i + 1) = grps t i := by
  simp [grps, List.range_succ, List.filter_append, h]
def compsB (t : Topology) : List Comp := if t.valid = true then nums 1 t.links.length ++ nums 2 t.nodes.toNat ++ grps t 64 else []
theorem hasG_no {t : Topology} {g : Int} {i : Nat} (hi : t.links.length ≤ i) (h : ∀ k < i, (t.links.getD k default).group ≠ g) : hasG t g = false := by
  rw [hasG, List.any_eq_false]
  intro l hl
  obtain ⟨k, hk, rfl⟩ := List.getElem_of_mem hl
  have := h k (by omega)
  rw [getD_at hk] at this
  simpa using this
theorem hasG_yes {t : Topology} {g : Int} {i : Nat} (hi : i < t.links.length) (h : t.links[i].group = g) : hasG t g = true := by
  rw [hasG, List.any_eq_true]; exact ⟨t.links[i], List.getElem_mem hi, by simpa using h⟩

theorem all_c (t : Topology) : PureCall Tryd.prog F.component_All [.agg t.enc] (asl ((compsB t).map Comp.enc)) := by
  refine contractS fits K.component_All ?_
  have hlm : (t.links.map Link.enc).length = t.links.length := List.length_map ..
  repeat' (first
      | ((with_reducible refine step ?_); conv => whnf) | ((with_reducible refine br_dec (fun h => ?_) (fun h => ?_)) <;> try (exfalso; omega)) | ((with_reducible refine br_ndec (fun h => ?_) (fun h => ?_)) <;> try (exfalso; omega)) | (with_reducible refine br_not (fun h => ?_) (fun h => ?_)) | (with_reducible refine And.intro (fun h => ?_) (fun h => ?_))
      | (refine call_pure (valid_c t) rfl rfl ?_; conv => whnf)
      | fail)
  · rw [compsB, if_neg (by simp [*])]; rfl
  have hv : t.valid = true := by assumption
  have hll := valid_links hv
  have hnn := valid_nodes hv
  refine loop_promoteD (k := 3) (esz := 2) rfl (by decide) ?_
  refine loop_invS (fun i => i ≤ t.links.length) [1, 3, 12, 13] 2 (fun i => [(13, ai i)]) (fun i => [(1, .arr 0 2 none ((nums 1 i).map Comp.enc) false)]) (fun i => t.links.length - i) 0 (by decide) (by decide) ?_
  conv => whnf
  refine ⟨rfl, rfl, by omega, fun i hi => ?_⟩
  have hsl := nums_len 1 i
  repeat' (first
      | ((with_reducible refine step ?_); conv => whnf) | ((with_reducible refine br_dec (fun h => ?_) (fun h => ?_)) <;> try (exfalso; omega)) | ((with_reducible refine br_ndec (fun h => ?_) (fun h => ?_)) <;> try (exfalso; omega)) | (with_reducible refine br_not (fun h => ?_) (fun h => ?_)) | (with_reducible refine And.intro (fun h => ?_) (fun h => ?_))
      | (refine And.intro ?_ ?_; (focus (simp [elemsOk, AV.oneC, big]; (try omega); done)); conv => whnf)
      | fail)
  · exact ⟨i + 1, by omega, by omega, by rw [wrap_succ (by omega)]; rfl, by rw [nums_succ, List.map_append]; rfl⟩
  obtain rfl : i = t.links.length := by omega
  clear hi
  refine loop_invS (fun i => i ≤ t.nodes.toNat) [1, 3, 23, 24] 2 (fun i => [(24, ai i)]) (fun i => [(1, .arr 0 2 none ((nums 1 t.links.length ++ nums 2 i).map Comp.enc) false)]) (fun i => t.nodes.toNat - i) 0 (by decide) (by decide) ?_
  conv => whnf
  refine ⟨rfl, by rw [show nums 2 0 = [] from rfl, List.append_nil]; rfl, by omega, fun i hi => ?_⟩
  have hs2 := nums_len 2 i
  repeat' (first
      | ((with_reducible refine step ?_); conv => whnf) | ((with_reducible refine br_dec (fun h => ?_) (fun h => ?_)) <;> try (exfalso; omega)) | ((with_reducible refine br_ndec (fun h => ?_) (fun h => ?_)) <;> try (exfalso; omega)) | (with_reducible refine br_not (fun h => ?_) (fun h => ?_)) | (with_reducible refine And.intro (fun h => ?_) (fun h => ?_))
      | (refine And.intro ?_ ?_; (focus (simp [elemsOk, AV.oneC, big]; (try omega); done)); conv => whnf)
      | fail)
  · exact ⟨i + 1, by omega, by omega, by rw [wrap_succ (by omega)]; rfl, by rw [nums_succ, ← List.append_assoc, List.map_append (l₁ := nums 1 t.links.length ++ nums 2 i)]; rfl⟩
  obtain rfl : i = t.nodes.toNat := by omega
  clear hi
  refine loop_moveD (fun i => i ≤ 64) [1, 3, 6] 3 6 2 (fun i => [(6, .ptr 2 0)]) (fun i => [(1, .arr 0 2 none ((nums 1 t.links.length ++ nums 2 t.nodes.toNat ++ grps t i).map Comp.enc) false), (2, .box [ai ((i : Int) + 1)] false)]) (fun i => 64 - i) 0 (by decide) (by decide) (by decide) (by decide) ?_
  conv => whnf
  refine ⟨rfl, by rw [show grps t 0 = [] from rfl, List.append_nil]; rfl, by omega, fun i hi => ?_⟩
  have hs3 := grps_len t i
  repeat' (first
      | ((with_reducible refine step ?_); conv => whnf) | ((with_reducible refine br_dec (fun h => ?_) (fun h => ?_)) <;> try (exfalso; omega)) | ((with_reducible refine br_ndec (fun h => ?_) (fun h => ?_)) <;> try (exfalso; omega)) | (with_reducible refine br_not (fun h => ?_) (fun h => ?_)) | (with_reducible refine And.intro (fun h => ?_) (fun h => ?_))
      | (refine vcall_inS fits K.slices_ContainsFunc_Link rfl rfl ?_; conv => whnf)
      | (refine vcall_inS fits K.slices_IndexFunc_Link rfl rfl ?_; conv => whnf)
      | fail)
  · have hno : ∀ k : Int, k = (i : Int) + 1 → True := fun _ _ => trivial
    refine loop_invS (fun j => j ≤ t.links.length ∧ ∀ k < j, (t.links.getD k default).group ≠ (i : Int) + 1) [0, 1, 7, 8] 3 (fun j => [(8, ai j)]) (fun _ => []) (fun j => t.links.length - j) 0 (show 3 ≤ 3 by decide) (show 3 ≤ 3 by decide) ?_
    conv => whnf
    refine ⟨rfl, rfl, ⟨by omega, nofun⟩, fun j ⟨hj, hp⟩ => ?_⟩
    repeat' (first
      | ((with_reducible refine step ?_); conv => whnf) | ((with_reducible refine br_dec (fun h => ?_) (fun h => ?_)) <;> try (exfalso; omega)) | ((with_reducible refine br_ndec (fun h => ?_) (fun h => ?_)) <;> try (exfalso; omega)) | (with_reducible refine br_not (fun h => ?_) (fun h => ?_)) | (with_reducible refine And.intro (fun h => ?_) (fun h => ?_))
      | (have hlt : j < t.links.length := (by omega); refine idx_nat hlt rfl ?_; conv => whnf)
      | (refine vcall_inS fits K.component_All_1 rfl rfl ?_; conv => whnf)
      | (refine And.intro ?_ ?_; (focus (simp [elemsOk, AV.oneC, big]; (try omega); done)); conv => whnf)
      | fail)
    · have hg : hasG t ((i : Int) + 1) = true := hasG_yes (i := j) (by omega) (by assumption)
      refine ⟨rfl, rfl, ?_⟩
      conv => whnf
      have hw : IntKind.i64.wrap ((i : Int) + 1 + 1) = ((i + 1 : Nat) : Int) + 1 := by rw [wrap_in (by omega)]; omega
      exact ⟨i + 1, by omega, by omega, rfl, by rw [grps_yes hg, ← List.append_assoc, List.map_append (l₁ := nums 1 t.links.length ++ nums 2 t.nodes.toNat ++ grps t i), hw]; rfl⟩
    · have hlt : j < t.links.length := by omega
      have hq : (t.links.getD j default).group ≠ (i : Int) + 1 := by rw [getD_at hlt]; assumption
      exact ⟨j + 1, ⟨by omega, succ_all hp hq⟩, by omega, by rw [wrap_succ (by omega)]; rfl, rfl⟩
    · have hg : hasG t ((i : Int) + 1) = false := hasG_no (i := j) (by omega) hp
      refine ⟨rfl, rfl, ?_⟩
      conv => whnf
      have hw : IntKind.i64.wrap ((i : Int) + 1 + 1) = ((i + 1 : Nat) : Int) + 1 := by rw [wrap_in (by omega)]; omega
      exact ⟨i + 1, by omega, by omega, rfl, by rw [grps_no hg, hw]; rfl⟩
  · obtain rfl : i = 64 := by omega
    rw [compsB, if_pos hv]
theorem sel_pos {f : Nat → Bool} {n : Nat} : 0 < (sel f n).length ↔ ∃ a, a < n ∧ f a = true := by
  rw [sel, List.length_map, List.length_pos_iff_exists_mem]
  simp [List.mem_filter, List.mem_range]
theorem grp_pos {t : Topology} (hv : t.valid = true) {g : Int} (h1 : 1 ≤ g) (h2 : g ≤ 64) : 0 < (arcsB t ⟨3, g⟩).1.length ↔ hasG t g = true := by
  have hc : Comp.valid t ⟨3, g⟩ = true := by simp [Comp.valid, hv, h1, h2]
  rw [arcsB, if_pos hc]
  show 0 < (sel (Comp.arcN t ⟨3, g⟩) (2 * t.links.length)).length ↔ _
  rw [sel_pos]
  constructor
  · rintro ⟨a, ha, hf⟩
    have hlt : a / 2 < t.links.length := by omega
    refine hasG_yes hlt ?_
    rw [Comp.arcN, getD_at hlt] at hf
    simpa [Comp.has] using hf
  · intro hg
    rw [hasG, List.any_eq_true] at hg
    obtain ⟨l, hl, hq⟩ := hg
    obtain ⟨k, hk, rfl⟩ := List.getElem_of_mem hl
    refine ⟨2 * k, by omega, ?_⟩
    simpa [Comp.arcN, Comp.has, show 2 * k / 2 = k by omega, hk] using hq

end Go.Proofs.YtakkfpiibeokiaaDoor.Vm
/- Contracts: the example that every statement of the set 10 checks first. -/
set_option linter.all false
namespace Go.Proofs.YtakkfpiibeokiaaDoor.Vm
open Go
set_option maxRecDepth 100000
set_option maxHeartbeats 4000000

theorem ex10_1_c (a b g : Int) : PureCall Tryd.prog F.law10_example_1 [ai a, ai b, ai g] (.agg (Link.enc ⟨a, b, 1, 1, 0, 1, g⟩)) := by
  refine contractS fits K.law10_example_1 ?_
  repeat' (first
      | ((with_reducible refine step ?_); conv => whnf) | ((with_reducible refine br_dec (fun h => ?_) (fun h => ?_)) <;> try (exfalso; omega)) | ((with_reducible refine br_ndec (fun h => ?_) (fun h => ?_)) <;> try (exfalso; omega)) | (with_reducible refine br_not (fun h => ?_) (fun h => ?_)) | (with_reducible refine And.intro (fun h => ?_) (fun h => ?_))
      | fail)
  all_goals rfl
def ex10 : Topology := ⟨3, [], [⟨0, 1, 1, 1, 0, 1, 1⟩, ⟨1, 2, 1, 1, 0, 1, 0⟩, ⟨2, 0, 1, 1, 0, 1, 1⟩]⟩
theorem ex10_c : PureCall Tryd.prog F.law10_example [] (.agg ex10.enc) := by
  refine contractS fits K.law10_example ?_
  repeat' (first
      | ((with_reducible refine step ?_); conv => whnf) | ((with_reducible refine br_dec (fun h => ?_) (fun h => ?_)) <;> try (exfalso; omega)) | ((with_reducible refine br_ndec (fun h => ?_) (fun h => ?_)) <;> try (exfalso; omega)) | (with_reducible refine br_not (fun h => ?_) (fun h => ?_)) | (with_reducible refine And.intro (fun h => ?_) (fun h => ?_))
      | (refine call_pure (ex10_1_c _ _ _) rfl rfl ?_; conv => whnf)
      | fail)
  all_goals rfl
theorem words_c : PureCall Tryd.prog F.component_words [] (.agg [.str [], .str [108, 105, 110, 107], .str [110, 111, 100, 101], .str [103, 114, 111, 117, 112]]) := by
  refine contractS fits K.component_words ?_
  repeat' (first
      | ((with_reducible refine step ?_); conv => whnf) | ((with_reducible refine br_dec (fun h => ?_) (fun h => ?_)) <;> try (exfalso; omega)) | ((with_reducible refine br_ndec (fun h => ?_) (fun h => ?_)) <;> try (exfalso; omega)) | (with_reducible refine br_not (fun h => ?_) (fun h => ?_)) | (with_reducible refine And.intro (fun h => ?_) (fun h => ?_))
      | fail)
  all_goals rfl
theorem small_c : PureCall Tryd.prog F.internal_strconv_small [ai 1] (.str [49]) := by
  refine contractS fits K.internal_strconv_small ?_
  repeat' (first
      | ((with_reducible refine step ?_); conv => whnf) | ((with_reducible refine br_dec (fun h => ?_) (fun h => ?_)) <;> try (exfalso; omega)) | ((with_reducible refine br_ndec (fun h => ?_) (fun h => ?_)) <;> try (exfalso; omega)) | (with_reducible refine br_not (fun h => ?_) (fun h => ?_)) | (with_reducible refine And.intro (fun h => ?_) (fun h => ?_))
      | (refine And.intro (by decide) ?_; conv => whnf)
      | fail)
  all_goals rfl
theorem formatInt_c : PureCall Tryd.prog F.internal_strconv_FormatInt [ai 1, ai 10] (.str [49]) := by
  refine contractS fits K.internal_strconv_FormatInt ?_
  repeat' (first
      | ((with_reducible refine step ?_); conv => whnf) | ((with_reducible refine br_dec (fun h => ?_) (fun h => ?_)) <;> try (exfalso; omega)) | ((with_reducible refine br_ndec (fun h => ?_) (fun h => ?_)) <;> try (exfalso; omega)) | (with_reducible refine br_not (fun h => ?_) (fun h => ?_)) | (with_reducible refine And.intro (fun h => ?_) (fun h => ?_))
      | (refine call_pure small_c rfl rfl ?_; conv => whnf)
      | fail)
  all_goals rfl
theorem itoa0_c : PureCall Tryd.prog F.internal_strconv_Itoa [ai 1] (.str [49]) := by
  refine contractS fits K.internal_strconv_Itoa ?_
  repeat' (first
      | ((with_reducible refine step ?_); conv => whnf) | ((with_reducible refine br_dec (fun h => ?_) (fun h => ?_)) <;> try (exfalso; omega)) | ((with_reducible refine br_ndec (fun h => ?_) (fun h => ?_)) <;> try (exfalso; omega)) | (with_reducible refine br_not (fun h => ?_) (fun h => ?_)) | (with_reducible refine And.intro (fun h => ?_) (fun h => ?_))
      | (refine call_pure formatInt_c rfl rfl ?_; conv => whnf)
      | fail)
  all_goals rfl
theorem itoa_c : PureCall Tryd.prog F.strconv_Itoa [ai 1] (.str [49]) := by
  refine contractS fits K.strconv_Itoa ?_
  repeat' (first
      | ((with_reducible refine step ?_); conv => whnf) | ((with_reducible refine br_dec (fun h => ?_) (fun h => ?_)) <;> try (exfalso; omega)) | ((with_reducible refine br_ndec (fun h => ?_) (fun h => ?_)) <;> try (exfalso; omega)) | (with_reducible refine br_not (fun h => ?_) (fun h => ?_)) | (with_reducible refine And.intro (fun h => ?_) (fun h => ?_))
      | (refine call_pure itoa0_c rfl rfl ?_; conv => whnf)
      | fail)
  all_goals rfl
theorem text31_c : PureCall Tryd.prog F.component_Text [.agg (Comp.enc ⟨3, 1⟩)] (.str [103, 114, 111, 117, 112, 32, 49]) := by
  show PureCall Tryd.prog F.component_Text [.agg [ai 3, ai 1]] _
  refine contractS fits K.component_Text ?_
  repeat' (first
      | ((with_reducible refine step ?_); conv => whnf) | ((with_reducible refine br_dec (fun h => ?_) (fun h => ?_)) <;> try (exfalso; omega)) | ((with_reducible refine br_ndec (fun h => ?_) (fun h => ?_)) <;> try (exfalso; omega)) | (with_reducible refine br_not (fun h => ?_) (fun h => ?_)) | (with_reducible refine And.intro (fun h => ?_) (fun h => ?_))
      | (refine call_pure words_c rfl rfl ?_; conv => whnf)
      | (refine call_pure itoa_c rfl rfl ?_; conv => whnf)
      | (refine ⟨3, rfl, by decide, ?_⟩; conv => whnf)
      | (refine And.intro (by decide) ?_; conv => whnf)
      | fail)
  all_goals rfl
theorem awake10_c : PureCall Tryd.prog F.law10_awake [] (.bool true) := by
  refine contractS fits K.law10_awake ?_
  have a2 := arcsC_c ex10 ⟨2, 1⟩
  have a3 := arcsC_c ex10 ⟨3, 1⟩
  have al := all_c ex10
  rw [show arcsB ex10 ⟨2, 1⟩ = ([0, 1, 2, 3], 0) by decide +kernel] at a2
  rw [show arcsB ex10 ⟨3, 1⟩ = ([0, 1, 4, 5], 0) by decide +kernel] at a3
  have s2 := sameInts_c [0, 1, 2, 3] [0, 1, 2, 3] (by decide)
  have s3 := sameInts_c [0, 1, 4, 5] [0, 1, 4, 5] (by decide)
  have hal : (compsB ex10).length = 7 := by decide +kernel
  have hal2 : ((compsB ex10).map Comp.enc).length = 7 := by rw [List.length_map, hal]
  repeat' (first
      | contradiction
      | (exfalso; revert h; decide)
      | ((with_reducible refine step ?_); conv => whnf) | ((with_reducible refine br_dec (fun h => ?_) (fun h => ?_)) <;> try (exfalso; omega)) | ((with_reducible refine br_ndec (fun h => ?_) (fun h => ?_)) <;> try (exfalso; omega)) | (with_reducible refine br_not (fun h => ?_) (fun h => ?_)) | (with_reducible refine And.intro (fun h => ?_) (fun h => ?_))
      | (refine call_pure ex10_c rfl rfl ?_; conv => whnf)
      | (refine call_pure a2 rfl rfl ?_; conv => whnf)
      | (refine call_pure a3 rfl rfl ?_; conv => whnf)
      | (refine call_pure al rfl rfl ?_; conv => whnf)
      | (refine call_pure s2 rfl rfl ?_; conv => whnf)
      | (refine call_pure s3 rfl rfl ?_; conv => whnf)
      | (refine call_pure text31_c rfl rfl ?_; conv => whnf)
      | fail)
  all_goals first | rfl
end Go.Proofs.YtakkfpiibeokiaaDoor.Vm
/- The statements of the set 10. -/
set_option linter.all false
namespace Go.Proofs.YtakkfpiibeokiaaDoor.Vm
open Go
set_option maxRecDepth 100000
set_option maxHeartbeats 4000000

theorem arcsB_len (t : Topology) (c : Comp) : (arcsB t c).1.length ≤ 2 * t.links.length := by
  unfold arcsB; split
  · exact sel_len ..
  · exact Nat.zero_le _
theorem unionB_len (t : Topology) (cs : List Comp) : (unionB t cs).1.length ≤ 2 * t.links.length := by
  unfold unionB; split
  · simp [maskF]
  · exact Nat.zero_le _
theorem not_large {t : Topology} (h : (decide (200 < t.overload.length) || decide (300 < t.links.length)) = false) : t.links.length ≤ 300 := by
  simp at h; omega

theorem comps_valid {t : Topology} (hv : t.valid = true) {c : Comp} (hc : c ∈ compsB t) : c.valid t = true := by
  have hnn := valid_nodes hv
  rw [compsB, if_pos hv] at hc
  simp only [List.mem_append, nums, grps, List.mem_map, List.mem_range, List.mem_filter] at hc
  rcases hc with (⟨a, ha, rfl⟩ | ⟨a, ha, rfl⟩) | ⟨a, ha, rfl⟩
  · simp [Comp.valid, hv]; omega
  · simp [Comp.valid, hv]; omega
  · simp [Comp.valid, hv]; omega
theorem comps_valid' {t : Topology} {c : Comp} (hc : c ∈ compsB t) : c.valid t = true := by
  by_cases hv : t.valid = true
  · exact comps_valid hv hc
  · rw [compsB, if_neg hv] at hc; simp at hc
theorem within_iff {t : Topology} {c d : Comp} : withinB t c d = true ↔ c.valid t = true ∧ d.valid t = true ∧ ∀ i (hi : i < t.links.length), c.has i t.links[i] = true → d.has i t.links[i] = true := by
  rw [withinB, Bool.and_eq_true, Bool.and_eq_true, List.all_eq_true]
  constructor
  · rintro ⟨⟨h1, h2⟩, h⟩
    refine ⟨h1, h2, fun i hi hc => ?_⟩
    have := h i (List.mem_range.2 hi)
    rw [getD_at hi, hc] at this
    simpa using this
  · rintro ⟨h1, h2, h⟩
    refine ⟨⟨h1, h2⟩, fun i hi => ?_⟩
    have hi := List.mem_range.1 hi
    rw [getD_at hi]
    cases hc : c.has i t.links[i] with
    | false => rfl
    | true => rw [h i hi hc]; rfl
theorem within_trans {t : Topology} {a b c : Comp} (h1 : withinB t a b = true) (h2 : withinB t b c = true) : withinB t a c = true := by
  rw [within_iff] at *
  exact ⟨h1.1, h2.2.1, fun i hi h => h2.2.2 i hi (h1.2.2 i hi h)⟩
theorem within_refl (t : Topology) (a : Comp) : withinB t a a = a.valid t := by
  rw [Bool.eq_iff_iff, within_iff]
  exact ⟨fun h => h.1, fun h => ⟨h, h, fun _ _ q => q⟩⟩
theorem within_link {t : Topology} (hv : t.valid = true) {i : Nat} (hi : i < t.links.length) : withinB t ⟨1, i⟩ ⟨2, t.links[i].a⟩ = true ∧ withinB t ⟨1, i⟩ ⟨2, t.links[i].b⟩ = true ∧ (t.links[i].group ≠ 0 → withinB t ⟨1, i⟩ ⟨3, t.links[i].group⟩ = true) := by
  have hnn := valid_nodes hv
  have hp : t.links[i].proper t.nodes = true := by
    have hv' := hv
    simp only [Topology.valid, Bool.and_eq_true, List.all_eq_true] at hv'
    exact hv'.2 _ (List.getElem_mem hi)
  simp only [Link.proper, Bool.and_eq_true, decide_eq_true_eq] at hp
  rw [wrap_in (by omega)] at hp
  have h1 : Comp.valid t ⟨1, (i : Int)⟩ = true := by simp [Comp.valid, hv]; omega
  refine ⟨within_iff.2 ⟨h1, ?_, fun k hk h => ?_⟩, within_iff.2 ⟨h1, ?_, fun k hk h => ?_⟩, fun hg => within_iff.2 ⟨h1, ?_, fun k hk h => ?_⟩⟩
  · simp [Comp.valid, hv]; omega
  · have : k = i := by have h : (k : Int) = i := (by simpa [Comp.has] using h); omega
    subst this; simp [Comp.has]
  · simp [Comp.valid, hv]; omega
  · have : k = i := by have h : (k : Int) = i := (by simpa [Comp.has] using h); omega
    subst this; simp [Comp.has]
  · simp [Comp.valid, hv]; omega
  · have : k = i := by have h : (k : Int) = i := (by simpa [Comp.has] using h); omega
    subst this; simp [Comp.has]

end Go.Proofs.YtakkfpiibeokiaaDoor.Vm
/- Contracts: topology. -/
set_option linter.all false
namespace Go.Proofs.YtakkfpiibeokiaaDoor.Vm
open Go
set_option maxRecDepth 100000
set_option maxHeartbeats 4000000

theorem large9_c (t : Topology) : PureCall Tryd.prog F.law09_large [.agg t.enc] (.bool (decide (200 < t.overload.length) || decide (300 < t.links.length))) := by
  refine contractS fits K.law09_large ?_
  have hlm : (t.links.map Link.enc).length = t.links.length := List.length_map ..
  have hom : (t.overload.map eBool).length = t.overload.length := List.length_map ..
  repeat' (first
      | ((with_reducible refine step ?_); conv => whnf) | ((with_reducible refine br_dec (fun h => ?_) (fun h => ?_)) <;> try (exfalso; omega)) | ((with_reducible refine br_ndec (fun h => ?_) (fun h => ?_)) <;> try (exfalso; omega)) | (with_reducible refine br_not (fun h => ?_) (fun h => ?_)) | (with_reducible refine And.intro (fun h => ?_) (fun h => ?_))
      | fail)
  all_goals refine congrArg AV.bool ?_
  all_goals grind
theorem overloaded_c (t : Topology) (n : Int) : PureCall Tryd.prog F.topology_Overloaded [.agg t.enc, ai n] (.bool (t.ovl n)) := by
  refine contractS fits K.topology_Overloaded ?_
  have hom : (t.overload.map eBool).length = t.overload.length := List.length_map ..
  repeat' (first
      | ((with_reducible refine step ?_); conv => whnf) | ((with_reducible refine br_dec (fun h => ?_) (fun h => ?_)) <;> try (exfalso; omega)) | ((with_reducible refine br_ndec (fun h => ?_) (fun h => ?_)) <;> try (exfalso; omega)) | (with_reducible refine br_not (fun h => ?_) (fun h => ?_)) | (with_reducible refine And.intro (fun h => ?_) (fun h => ?_))
      | (have hq : n.toNat < t.overload.length := (by omega); refine idx_int (j := n.toNat) (by omega) hq rfl ?_; conv => whnf)
      | (refine call_pure (valid_c t) rfl rfl ?_; conv => whnf)
      | fail)
  all_goals refine congrArg AV.bool ?_
  all_goals unfold Topology.ovl
  all_goals try rw [getD_at hq]
  all_goals grind
def pathL (t : Topology) : Nat → Int → Int → List Int → Int × Int × Int
  | _, n, c, [] => (n, c, 0)
  | i, n, c, a :: l => if t.tail a < 0 then (0, 0, 2) else if t.tail a ≠ n ∨ (0 < i ∧ t.ovl n = true) then (0, 0, 4) else pathL t (i + 1) (t.head a) (IntKind.i64.wrap (c + t.cost a)) l
def pathR (t : Topology) (n : Int) (l : List Int) : Int × Int × Int := if t.valid = false then (0, 0, 1) else if n < 0 ∨ t.nodes ≤ n then (0, 0, 2) else pathL t 0 n 0 l
def pathS (t : Topology) (n : Int) (l : List Int) (i : Nat) : Int × Int := (l.take i).foldl (fun s a => (t.head a, IntKind.i64.wrap (s.2 + t.cost a))) (n, 0)
theorem pathS_succ {t : Topology} {n : Int} {l : List Int} {i : Nat} (h : i < l.length) : pathS t n l (i + 1) = (t.head l[i], IntKind.i64.wrap ((pathS t n l i).2 + t.cost l[i])) := by
  rw [pathS, List.take_succ_eq_append_getElem h, List.foldl_append]; rfl
def ePath (r : Int × Int × Int) : AV := .tuple [ai r.1, ai r.2.1, ai r.2.2]
def pathI (t : Topology) (n : Int) (l : List Int) (i : Nat) : Prop := pathL t 0 n 0 l = pathL t i (pathS t n l i).1 (pathS t n l i).2 (l.drop i)
theorem pathI_next {t : Topology} {n : Int} {l : List Int} {i : Nat} (h : i < l.length) (hp : pathI t n l i) (h1 : ¬ t.tail l[i] < 0) (h2 : t.tail l[i] = (pathS t n l i).1) (h3 : 0 < i → t.ovl (pathS t n l i).1 = false) : pathI t n l (i + 1) := by
  unfold pathI at hp ⊢
  rw [hp, List.drop_eq_getElem_cons h, pathL, if_neg h1, if_neg (fun hq => by
    rcases hq with hq | ⟨q1, q2⟩
    · exact hq h2
    · rw [h3 q1] at q2; exact nomatch q2), pathS_succ h]
theorem pathI_two {t : Topology} {n : Int} {l : List Int} {i : Nat} (h : i < l.length) (hp : pathI t n l i) (h1 : t.tail l[i] < 0) : pathL t 0 n 0 l = (0, 0, 2) := by
  unfold pathI at hp
  rw [hp, List.drop_eq_getElem_cons h, pathL, if_pos h1]
theorem pathI_four {t : Topology} {n : Int} {l : List Int} {i : Nat} (h : i < l.length) (hp : pathI t n l i) (h1 : ¬ t.tail l[i] < 0) (h2 : t.tail l[i] ≠ (pathS t n l i).1 ∨ (0 < i ∧ t.ovl (pathS t n l i).1 = true)) : pathL t 0 n 0 l = (0, 0, 4) := by
  unfold pathI at hp
  rw [hp, List.drop_eq_getElem_cons h, pathL, if_neg h1, if_pos h2]
theorem pathI_end {t : Topology} {n : Int} {l : List Int} {i : Nat} (h : l.length ≤ i) (hp : pathI t n l i) : pathL t 0 n 0 l = ((pathS t n l i).1, (pathS t n l i).2, 0) := by
  unfold pathI at hp
  rw [hp, List.drop_of_length_le h, pathL]
theorem tail_neg {t : Topology} (hv : t.valid = true) {a : Int} : t.tail a < 0 ↔ a < 0 ∨ t.arcs ≤ a := by
  constructor
  · intro h
    by_cases h1 : a < 0
    · exact .inl h1
    · by_cases h2 : t.arcs ≤ a
      · exact .inr h2
      · have := ends_range (t := t) (a := a) (by omega) (by omega); omega
  · intro h
    rw [Topology.tail, if_pos h]; decide

theorem path_c (t : Topology) (n : Int) (l : List Int) (ha : l.length < 4611686018427387904) : PureCall Tryd.prog F.topology_Path [.agg t.enc, ai n, asl (l.map eInt)] (ePath (pathR t n l)) := by
  refine contractS fits K.topology_Path ?_
  have ham : (l.map eInt).length = l.length := List.length_map ..
  repeat' (first
      | ((with_reducible refine step ?_); conv => whnf) | ((with_reducible refine br_dec (fun h => ?_) (fun h => ?_)) <;> try (exfalso; omega)) | ((with_reducible refine br_ndec (fun h => ?_) (fun h => ?_)) <;> try (exfalso; omega)) | (with_reducible refine br_not (fun h => ?_) (fun h => ?_)) | (with_reducible refine And.intro (fun h => ?_) (fun h => ?_))
      | (refine call_pure (valid_c t) rfl rfl ?_; conv => whnf)
      | (refine call_pure (inside_c _ _ _) rfl rfl ?_; conv => whnf)
      | fail)
  · rw [pathR, if_pos (by assumption)]; rfl
  · have hv : t.valid = true := by assumption
    have hnn := valid_nodes hv
    rw [wrap_in (by omega)] at h
    rw [pathR, if_neg (by simp [hv]), if_pos (by simp at h; omega)]; rfl
  have hv : t.valid = true := by assumption
  have hnn := valid_nodes hv
  rw [wrap_in (by omega)] at h
  rw [pathR, if_neg (by simp [hv]), if_neg (by simp at h; omega)]
  clear h
  refine loop_invS (fun i => i ≤ l.length ∧ pathI t n l i) [3, 6, 7, 26, 27, 28] 1 (fun i => [(6, ai (pathS t n l i).1), (7, ai (pathS t n l i).2), (28, ai i)]) (fun _ => []) (fun i => l.length - i) 0 (by decide) (by decide) ?_
  conv => whnf
  refine ⟨rfl, rfl, ⟨by omega, rfl⟩, fun i ⟨hi, hp⟩ => ?_⟩
  repeat' (first
      | ((with_reducible refine step ?_); conv => whnf) | ((with_reducible refine br_dec (fun h => ?_) (fun h => ?_)) <;> try (exfalso; omega)) | ((with_reducible refine br_ndec (fun h => ?_) (fun h => ?_)) <;> try (exfalso; omega)) | (with_reducible refine br_not (fun h => ?_) (fun h => ?_)) | (with_reducible refine And.intro (fun h => ?_) (fun h => ?_))
      | (have hlt : i < l.length := (by omega); refine idx_nat hlt rfl ?_; conv => whnf)
      | (refine call_pure (ends_c t _) rfl rfl ?_; conv => whnf)
      | (refine call_pure (overloaded_c t _) rfl rfl ?_; conv => whnf)
      | fail)
  · rw [pathI_two hlt hp h]; rfl
  · rw [pathI_four hlt hp (by assumption) (.inl h)]; rfl
  · rw [pathI_four hlt hp (by assumption) (.inr ⟨by omega, h⟩)]; rfl
  · exact ⟨i + 1, ⟨by omega, pathI_next hlt hp (by assumption) (by assumption) fun _ => h⟩, by omega, by rw [pathS_succ hlt, wrap_succ (by omega)]; rfl, rfl⟩
  · exact ⟨i + 1, ⟨by omega, pathI_next hlt hp (by assumption) (by assumption) fun h0 => absurd h0 (by omega)⟩, by omega, by rw [pathS_succ hlt, wrap_succ (by omega)]; rfl, rfl⟩
  · rw [pathI_end (by omega) hp]; rfl
theorem sel_two (f : Nat → Bool) (i : Nat) : sel f (2 * (i + 1)) = sel f (2 * i) ++ ((if f (2 * i) = true then [2 * (i : Int)] else []) ++ (if f (2 * i + 1) = true then [2 * (i : Int) + 1] else [])) := by
  have e1 : sel f (2 * i + 1) = sel f (2 * i) ++ (if f (2 * i) = true then [2 * (i : Int)] else []) := by
    cases h : f (2 * i) with
    | true => rw [sel_yes h, if_pos rfl]; simp
    | false => rw [sel_no h]; simp
  have e2 : sel f (2 * i + 1 + 1) = sel f (2 * i + 1) ++ (if f (2 * i + 1) = true then [2 * (i : Int) + 1] else []) := by
    cases h : f (2 * i + 1) with
    | true => rw [sel_yes h, if_pos rfl]; simp
    | false => rw [sel_no h]; simp
  rw [show 2 * (i + 1) = 2 * i + 1 + 1 by omega, e2, e1, List.append_assoc]
theorem ends_at {t : Topology} (hv : t.valid = true) {i : Nat} (hi : i < t.links.length) : t.tail ((2 * i : Nat) : Int) = t.links[i].a ∧ t.tail ((2 * i + 1 : Nat) : Int) = t.links[i].b ∧ t.head ((2 * i : Nat) : Int) = t.links[i].b ∧ t.head ((2 * i + 1 : Nat) : Int) = t.links[i].a := by
  have ha : t.arcs = 2 * t.links.length := by simp [Topology.arcs, hv]
  have h1 : t.at_ ((2 * i : Nat) : Int) = t.links[i] := by
    unfold Topology.at_; rw [show (((2 * i : Nat) : Int) / 2).toNat = i by omega, getD_at hi]
  have h2 : t.at_ ((2 * i + 1 : Nat) : Int) = t.links[i] := by
    unfold Topology.at_; rw [show (((2 * i + 1 : Nat) : Int) / 2).toNat = i by omega, getD_at hi]
  refine ⟨?_, ?_, ?_, ?_⟩
  · rw [Topology.tail, if_neg (by omega), if_pos (by omega), h1]
  · rw [Topology.tail, if_neg (by omega), if_neg (by omega), h2]
  · rw [Topology.head, if_neg (by omega), if_pos (by omega), h1]
  · rw [Topology.head, if_neg (by omega), if_neg (by omega), h2]
def endOf (t : Topology) (out : Bool) (a : Int) : Int := if out then t.tail a else t.head a
theorem arcs_sel {t : Topology} (hv : t.valid = true) (n : Int) (out : Bool) : ∀ i, i ≤ t.links.length → arcsN n out 0 (t.links.take i) = sel (fun a => decide (endOf t out (a : Nat) = n)) (2 * i) := by
  intro i
  induction i with
  | zero => intro _; rfl
  | succ i ih =>
    intro hi
    have hlt : i < t.links.length := by omega
    rw [List.take_succ_eq_append_getElem hlt, arcsN_snoc, ih (by omega), sel_two, List.length_take, Nat.min_eq_left (by omega), Nat.zero_add]
    congr 1
    obtain ⟨q1, q2, q3, q4⟩ := ends_at hv hlt
    have hne := (valid_ne hv (List.getElem_mem hlt)).1
    cases out
    · simp only [endOf, Bool.false_eq_true, if_false, q3, q4, arcOf, decide_eq_true_eq]
      by_cases h1 : t.links[i].a = n
      · have h2 : ¬ t.links[i].b = n := fun e => hne (h1.trans e.symm)
        simp [h1, h2]
      · by_cases h2 : t.links[i].b = n
        · simp [h1, h2]
        · simp [h1, h2]
    · simp only [endOf, if_true, q1, q2, arcOf, decide_eq_true_eq]
      by_cases h1 : t.links[i].a = n
      · have h2 : ¬ t.links[i].b = n := fun e => hne (h1.trans e.symm)
        simp [h1, h2]
      · by_cases h2 : t.links[i].b = n
        · simp [h1, h2]
        · simp [h1, h2]
theorem arcs1_sel (t : Topology) (n : Int) (out : Bool) : t.arcs1 n out = sel (fun a => decide (endOf t out (a : Nat) = n)) t.arcs.toNat := by
  unfold Topology.arcs1 Topology.arcs
  by_cases hv : t.valid = true
  · rw [if_pos hv, if_pos hv, show (2 * (t.links.length : Int)).toNat = 2 * t.links.length by omega, ← arcs_sel hv n out _ (Nat.le_refl _), List.take_length]
  · rw [if_neg hv, if_neg hv]; rfl
theorem arcs_bound (t : Topology) : 0 ≤ t.arcs ∧ t.arcs ≤ 512 := by
  unfold Topology.arcs
  split
  · have := valid_links ‹_›; omega
  · omega
end Go.Proofs.YtakkfpiibeokiaaDoor.Vm
/- The statements of the set 09, but for its self-check. -/
set_option linter.all false
namespace Go.Proofs.YtakkfpiibeokiaaDoor.Vm
open Go
set_option maxRecDepth 100000
set_option maxHeartbeats 4000000
abbrev Awake9 : Prop := PureCall Tryd.prog F.law09_awake [] (.bool true)

theorem arcs1_le (t : Topology) (n : Int) (out : Bool) : (t.arcs1 n out).length < 4611686018427387904 := by
  have := arcs_bound t
  rw [arcs1_sel]
  have := sel_len (fun a => decide (endOf t out (a : Nat) = n)) t.arcs.toNat
  omega
end Go.Proofs.YtakkfpiibeokiaaDoor.Vm
/- Contracts: ends of segments. -/
set_option linter.all false
namespace Go.Proofs.YtakkfpiibeokiaaDoor.Vm
open Go
set_option maxRecDepth 100000
set_option maxHeartbeats 4000000
/-- the end of a segment that begins at a node, and the error -/
def endR (t : Topology) (s : Segment) (n : Int) : Int × Int :=
  if s.valid t = false then (0, 1) else if n < 0 ∨ t.nodes ≤ n then (0, 2) else if s.kind = 1 then (s.num, 0) else if s.kind ≠ 2 then (0, 7) else if t.tail s.num ≠ n then (0, 4) else (t.head s.num, 0)
theorem end_c (t : Topology) (s : Segment) (n : Int) : PureCall Tryd.prog F.segment_End [.agg t.enc, .agg s.enc, ai n] (.tuple [ai (endR t s n).1, ai (endR t s n).2]) := by
  refine contractS fits K.segment_End ?_
  repeat' (first
      | contradiction
      | ((with_reducible refine step ?_); conv => whnf) | ((with_reducible refine br_dec (fun h => ?_) (fun h => ?_)) <;> try (exfalso; omega)) | ((with_reducible refine br_ndec (fun h => ?_) (fun h => ?_)) <;> try (exfalso; omega)) | (with_reducible refine br_not (fun h => ?_) (fun h => ?_)) | (with_reducible refine And.intro (fun h => ?_) (fun h => ?_))
      | (refine call_pure (segValid_c t s) rfl rfl ?_; conv => whnf)
      | (refine call_pure (tail_c t s.num) rfl rfl ?_; conv => whnf)
      | (refine call_pure (head_c t s.num) rfl rfl ?_; conv => whnf)
      | fail)
  all_goals first | (unfold endR; simp [*]; done)
theorem end18_c (t : Topology) (s : Segment) (n : Int) : PureCall Tryd.prog F.ref18_End [.agg t.enc, .agg s.enc, ai n] (.tuple [ai (endR t s n).1, ai (endR t s n).2]) := by
  refine contractS fits K.ref18_End ?_
  repeat' (first
      | contradiction
      | ((with_reducible refine step ?_); conv => whnf) | ((with_reducible refine br_dec (fun h => ?_) (fun h => ?_)) <;> try (exfalso; omega)) | ((with_reducible refine br_ndec (fun h => ?_) (fun h => ?_)) <;> try (exfalso; omega)) | (with_reducible refine br_not (fun h => ?_) (fun h => ?_)) | (with_reducible refine And.intro (fun h => ?_) (fun h => ?_))
      | (refine call_pure (segValid18_c t s) rfl rfl ?_; conv => whnf)
      | (refine call_pure (tail9_c t s.num) rfl rfl ?_; conv => whnf)
      | (refine call_pure (head9_c t s.num) rfl rfl ?_; conv => whnf)
      | fail)
  all_goals first | (unfold endR; simp [*]; done)
def endsL (t : Topology) : Int → List Segment → List Int × Int
  | _, [] => ([], 0)
  | n, s :: l => if (endR t s n).2 ≠ 0 then ([], (endR t s n).2) else if (endsL t (endR t s n).1 l).2 ≠ 0 then ([], (endsL t (endR t s n).1 l).2) else ((endR t s n).1 :: (endsL t (endR t s n).1 l).1, 0)
def endsR (t : Topology) (l : List Segment) (n : Int) : List Int × Int :=
  if t.valid = false then ([], 1) else if n < 0 ∨ t.nodes ≤ n then ([], 2) else endsL t n l
def joinE (out : List Int) (q : List Int × Int) : List Int × Int := if q.2 ≠ 0 then ([], q.2) else (out ++ q.1, 0)
theorem endsL_err {t : Topology} {n : Int} {s : Segment} {l : List Segment} {out : List Int} (h : (endR t s n).2 ≠ 0) : joinE out (endsL t n (s :: l)) = ([], (endR t s n).2) := by
  have : endsL t n (s :: l) = ([], (endR t s n).2) := by rw [endsL, if_pos h]
  rw [this, joinE, if_pos h]
theorem endsL_ok {t : Topology} {n : Int} {s : Segment} {l : List Segment} {out : List Int} (h : (endR t s n).2 = 0) : joinE out (endsL t n (s :: l)) = joinE (out ++ [(endR t s n).1]) (endsL t (endR t s n).1 l) := by
  rw [endsL, if_neg (by simp [h])]
  by_cases h2 : (endsL t (endR t s n).1 l).2 ≠ 0
  · rw [if_pos h2, joinE, if_pos h2, joinE, if_pos h2]
  · rw [if_neg h2, joinE, if_neg (by simp), joinE, if_neg h2]; simp
theorem endsL_start (t : Topology) (n : Int) (l : List Segment) : endsL t n l = joinE [] (endsL t n l) := by
  unfold joinE
  split
  · rename_i h
    cases l with
    | nil => exact absurd rfl h
    | cons s l =>
      rw [endsL] at h ⊢
      split at h
      · rename_i h1; rw [if_pos h1]
      · split at h
        · rename_i h1 h2; rw [if_neg h1, if_pos h2]
        · exact absurd rfl h
  · rename_i h
    cases l with
    | nil => rfl
    | cons s l =>
      rw [endsL] at h ⊢
      split at h
      · rename_i h1; exact absurd h1 h
      · split at h
        · rename_i h1 h2; exact absurd h2 h
        · rename_i h1 h2; rw [if_neg h1, if_neg h2]; rfl
theorem sends_c (t : Topology) (l : List Segment) (n : Int) (hl : l.length ≤ 1000) : PureCall Tryd.prog F.segment_Ends [.agg t.enc, asl (l.map Segment.enc), ai n] (.tuple [asl ((endsR t l n).1.map eInt), ai (endsR t l n).2]) := by
  refine contractS fits K.segment_Ends ?_
  have hlm : (l.map Segment.enc).length = l.length := List.length_map ..
  repeat' (first
      | contradiction
      | ((with_reducible refine step ?_); conv => whnf) | ((with_reducible refine br_dec (fun h => ?_) (fun h => ?_)) <;> try (exfalso; omega)) | ((with_reducible refine br_ndec (fun h => ?_) (fun h => ?_)) <;> try (exfalso; omega)) | (with_reducible refine br_not (fun h => ?_) (fun h => ?_)) | (with_reducible refine And.intro (fun h => ?_) (fun h => ?_))
      | (refine call_pure (valid_c t) rfl rfl ?_; conv => whnf)
      | fail)
  · rw [endsR, if_pos (by simp_all)]; rfl
  · rw [endsR, if_neg (by simp_all), if_pos (by omega)]; rfl
  · rw [endsR, if_neg (by simp_all), if_pos (by omega)]; rfl
  have hv : t.valid = true := by simp_all
  rw [endsR, if_neg (by simp_all), if_neg (by omega)]
  refine loop_promoteD (k := 8) (esz := 1) rfl (by decide) ?_
  refine loop_invS (ι := Nat × List Int × Int) (fun x => x.1 ≤ l.length ∧ x.2.1.length = x.1 ∧ endsL t n l = joinE x.2.1 (endsL t x.2.2 (l.drop x.1))) [2, 3, 8, 26, 27, 28] 2 (fun x => [(28, ai x.1), (2, ai x.2.2)]) (fun x => [(1, .arr 0 1 none (x.2.1.map eInt) false)]) (fun x => l.length - x.1) (0, [], n) (by decide) (by decide) ?_
  conv => whnf
  refine ⟨rfl, rfl, ⟨Nat.zero_le _, rfl, endsL_start t n l⟩, fun ⟨i, out, c⟩ ⟨hi, hlen, he⟩ => ?_⟩
  dsimp only at hi hlen he ⊢
  have hle : (out.map eInt).length = i := by rw [List.length_map, hlen]
  repeat' (first
      | contradiction
      | ((with_reducible refine step ?_); conv => whnf) | ((with_reducible refine br_dec (fun h => ?_) (fun h => ?_)) <;> try (exfalso; omega)) | ((with_reducible refine br_ndec (fun h => ?_) (fun h => ?_)) <;> try (exfalso; omega)) | (with_reducible refine br_not (fun h => ?_) (fun h => ?_)) | (with_reducible refine And.intro (fun h => ?_) (fun h => ?_))
      | (have hlt : i < l.length := (by omega); refine idx_nat hlt rfl ?_; conv => whnf)
      | (refine call_pure (end_c t l[i] c) rfl rfl ?_; conv => whnf)
      | (refine And.intro ⟨trivial, rfl, by simp [elemsOk, AV.oneC], by simp [big]; omega⟩ ?_; conv => whnf)
      | fail)
  · rw [he, List.drop_eq_getElem_cons hlt, endsL_err h]; rfl
  · refine ⟨(i + 1, out ++ [(endR t l[i] c).1], (endR t l[i] c).1), ⟨hlt, by simp [hlen], ?_⟩, by omega, by rw [wrap_succ (by omega)]; rfl, by rw [List.map_append]; rfl⟩
    rw [he, List.drop_eq_getElem_cons hlt, endsL_ok h]
  · rw [he, List.drop_of_length_le (by omega)]
    simp [joinE, endsL]
theorem sends18_c (t : Topology) (l : List Segment) (n : Int) (hl : l.length ≤ 1000) : PureCall Tryd.prog F.ref18_Ends [.agg t.enc, asl (l.map Segment.enc), ai n] (.tuple [asl ((endsR t l n).1.map eInt), ai (endsR t l n).2]) := by
  refine contractS fits K.ref18_Ends ?_
  have hlm : (l.map Segment.enc).length = l.length := List.length_map ..
  repeat' (first
      | contradiction
      | ((with_reducible refine step ?_); conv => whnf) | ((with_reducible refine br_dec (fun h => ?_) (fun h => ?_)) <;> try (exfalso; omega)) | ((with_reducible refine br_ndec (fun h => ?_) (fun h => ?_)) <;> try (exfalso; omega)) | (with_reducible refine br_not (fun h => ?_) (fun h => ?_)) | (with_reducible refine And.intro (fun h => ?_) (fun h => ?_))
      | (refine call_pure (valid9_c t) rfl rfl ?_; conv => whnf)
      | fail)
  · rw [endsR, if_pos (by simp_all)]; rfl
  · rw [endsR, if_neg (by simp_all), if_pos (by omega)]; rfl
  · rw [endsR, if_neg (by simp_all), if_pos (by omega)]; rfl
  have hv : t.valid = true := by simp_all
  rw [endsR, if_neg (by simp_all), if_neg (by omega)]
  refine loop_promoteD (k := 8) (esz := 1) rfl (by decide) ?_
  refine loop_invS (ι := Nat × List Int × Int) (fun x => x.1 ≤ l.length ∧ x.2.1.length = x.1 ∧ endsL t n l = joinE x.2.1 (endsL t x.2.2 (l.drop x.1))) [1, 2, 3, 8, 9] 2 (fun x => [(9, ai x.1), (2, ai x.2.2)]) (fun x => [(1, .arr 0 1 none (x.2.1.map eInt) false)]) (fun x => l.length - x.1) (0, [], n) (by decide) (by decide) ?_
  conv => whnf
  refine ⟨rfl, rfl, ⟨Nat.zero_le _, rfl, endsL_start t n l⟩, fun ⟨i, out, c⟩ ⟨hi, hlen, he⟩ => ?_⟩
  dsimp only at hi hlen he ⊢
  have hle : (out.map eInt).length = i := by rw [List.length_map, hlen]
  repeat' (first
      | contradiction
      | ((with_reducible refine step ?_); conv => whnf) | ((with_reducible refine br_dec (fun h => ?_) (fun h => ?_)) <;> try (exfalso; omega)) | ((with_reducible refine br_ndec (fun h => ?_) (fun h => ?_)) <;> try (exfalso; omega)) | (with_reducible refine br_not (fun h => ?_) (fun h => ?_)) | (with_reducible refine And.intro (fun h => ?_) (fun h => ?_))
      | (have hlt : i < l.length := (by omega); refine idx_nat hlt rfl ?_; conv => whnf)
      | (refine call_pure (end18_c t l[i] c) rfl rfl ?_; conv => whnf)
      | (refine And.intro ⟨trivial, rfl, by simp [elemsOk, AV.oneC], by simp [big]; omega⟩ ?_; conv => whnf)
      | fail)
  · rw [he, List.drop_eq_getElem_cons hlt, endsL_err h]; rfl
  · refine ⟨(i + 1, out ++ [(endR t l[i] c).1], (endR t l[i] c).1), ⟨hlt, by simp [hlen], ?_⟩, by omega, by rw [wrap_succ (by omega)]; rfl, by rw [List.map_append]; rfl⟩
    rw [he, List.drop_eq_getElem_cons hlt, endsL_ok h]
  · rw [he, List.drop_of_length_le (by omega)]
    simp [joinE, endsL]
end Go.Proofs.YtakkfpiibeokiaaDoor.Vm
/- Contracts: the program's expansion. -/
set_option linter.all false
namespace Go.Proofs.YtakkfpiibeokiaaDoor.Vm
open Go
set_option maxRecDepth 100000

def eSegs (l : List Segment) : AV := asl (l.map Segment.enc)
def polL (ps : List Policy) : List ((Int × Int) × List Segment) := ps.map fun p => (p.key, p.list)
def opnL (opn : List (Int × Int)) : List ((Int × Int) × Bool) := opn.map fun k => (k, true)
/-- the objects of an expansion: the receiver, the policies, those that are open, what was kept -/
def xS (t : Topology) (ps : List Policy) (opn : List (Int × Int)) (s : Exp) : List VObj :=
  [.box [ai t.nodes, asl (t.overload.map eBool), asl (t.links.map Link.enc), .map 1, .map 2, ai s.at_, .sall 3 0] false, .map 0 0 (eMap eSegs (polL ps)), .map 0 0 (eMap eB (opnL opn)), .arr 0 2 none (s.out.map Segment.enc) false]
def keepP (s : Exp) (x : Segment) : Exp × Int := if s.out.length = 32 then (s, 6) else (⟨s.out ++ [x], s.at_⟩, 0)
theorem keepP_len {s : Exp} {x : Segment} (h : s.out.length ≤ 32) : (keepP s x).1.out.length ≤ 32 := by
  unfold keepP; split
  · exact h
  · simp; omega

def oneP (t : Topology) (ps : List Policy) (opn : List (Int × Int)) (s : Exp) (x : Segment) (deep : List Segment → Exp × Int) : Exp × Int :=
  if x.kind = 1 then keepP ⟨s.out, x.num⟩ x
  else if x.kind = 3 then keepP ⟨s.out, -1⟩ x
  else if s.at_ < 0 then (s, 7)
  else if x.kind = 2 then (if t.tail x.num ≠ s.at_ then (s, 4) else keepP ⟨s.out, t.head x.num⟩ x)
  else match (polL ps).lookup (s.at_, x.num) with
    | none => (s, 8)
    | some l => if (s.at_, x.num) ∈ opn then (s, 16) else deep l
theorem opnL_none {opn : List (Int × Int)} {k : Int × Int} : (opnL opn).lookup k = none ↔ k ∉ opn := by
  rw [lookup_none]; simp [opnL, Function.comp_def]
theorem opnL_val {opn : List (Int × Int)} {k : Int × Int} {b : Bool} (h : (opnL opn).lookup k = some b) : b = true ∧ k ∈ opn := by
  induction opn with
  | nil => simp [opnL] at h
  | cons p ps ih =>
    simp only [opnL, List.map_cons, List.lookup_cons] at h
    by_cases hk : k = p
    · subst hk; simp at h; simp [h]
    · have : (k == p) = false := by simp [hk]
      rw [this] at h
      obtain ⟨h1, h2⟩ := ih h
      exact ⟨h1, by simp [h2]⟩
theorem opn_put {opn : List (Int × Int)} {a b : Int} (h : (opnL opn).lookup (a, b) = none) : putM ks2 (.agg [ai a, ai b]) (.bool true) (eMap eB (opnL opn)) = eMap eB (opnL (opn ++ [(a, b)])) := by
  have := putM2 (a, b) eB true _ h
  rw [show opnL (opn ++ [(a, b)]) = opnL opn ++ [((a, b), true)] by unfold opnL; rw [List.map_append]; rfl]
  exact this
theorem opn_del {opn : List (Int × Int)} {a b : Int} (h : (opnL opn).lookup (a, b) = none) : delM ks2 (.agg [ai a, ai b]) (eMap eB (opnL (opn ++ [(a, b)]))) = eMap eB (opnL opn) := by
  have := delM2 (a, b) eB true _ h
  rw [show opnL (opn ++ [(a, b)]) = opnL opn ++ [((a, b), true)] by unfold opnL; rw [List.map_append]; rfl]
  exact this

def segP (t : Topology) (ps : List Policy) : Nat → List (Int × Int) → Exp → Segment → Exp × Int
  | 0, opn, s, x => oneP t ps opn s x fun _ => (s, 16)
  | n + 1, opn, s, x => oneP t ps opn s x fun l => runL (segP t ps n (opn ++ [(s.at_, x.num)])) s l
theorem oneP_len {t : Topology} {ps : List Policy} {opn : List (Int × Int)} {s : Exp} {x : Segment} {deep : List Segment → Exp × Int} (h : s.out.length ≤ 32) (hd : ∀ i, (deep i).1.out.length ≤ 32) : (oneP t ps opn s x deep).1.out.length ≤ 32 := by
  unfold oneP
  repeat' split
  all_goals first | exact h | exact keepP_len h | exact hd _
theorem segP_len (t : Topology) (ps : List Policy) : ∀ (n : Nat) (opn : List (Int × Int)) (s : Exp) (x : Segment), s.out.length ≤ 32 → (segP t ps n opn s x).1.out.length ≤ 32 := by
  intro n
  induction n with
  | zero => intro opn s x h; exact oneP_len h fun _ => h
  | succ n ih => intro opn s x h; exact oneP_len h fun i => runL_len (fun s x h => ih _ s x h) _ _ h

/-- what the recursion needs: as many policies as are not open -/
structure KeyOk (ps : List Policy) (opn : List (Int × Int)) (n : Nat) : Prop where
  nodup : opn.Nodup
  sub : ∀ k ∈ opn, k ∈ ps.map Policy.key
  fuel : ps.length ≤ opn.length + n
theorem KeyOk.succ {ps : List Policy} {opn : List (Int × Int)} {n : Nat} {k : Int × Int} (h : KeyOk ps opn (n + 1)) (hk : k ∈ ps.map Policy.key) (hn : k ∉ opn) : KeyOk ps (opn ++ [k]) n :=
  ⟨by rw [List.nodup_append]; exact ⟨h.nodup, by simp, fun a ha b hb => by simp at hb; subst hb; exact fun e => hn (e ▸ ha)⟩, fun j hj => by
    rcases List.mem_append.1 hj with hj | hj
    · exact h.sub j hj
    · simp at hj; subst hj; exact hk, by have := h.fuel; simp; omega⟩
theorem KeyOk.zero {ps : List Policy} {opn : List (Int × Int)} {k : Int × Int} (h : KeyOk ps opn 0) (hk : k ∈ ps.map Policy.key) (hn : k ∉ opn) : False := by
  have h1 := h.fuel
  have : (opn ++ [k]).length ≤ (ps.map Policy.key).length := List.Nodup.length_le_of_subset (by rw [List.nodup_append]; exact ⟨h.nodup, by simp, fun a ha b hb => by simp at hb; subst hb; exact fun e => hn (e ▸ ha)⟩) fun j hj => by
    rcases List.mem_append.1 hj with hj | hj
    · exact h.sub j hj
    · simp at hj; subst hj; exact hk
  simp at this; omega
theorem polL_mem {ps : List Policy} {k : Int × Int} {l : List Segment} (h : (polL ps).lookup k = some l) : k ∈ ps.map Policy.key ∧ ∃ p ∈ ps, p.list = l := by
  induction ps with
  | nil => simp [polL] at h
  | cons p ps ih =>
    simp only [polL, List.map_cons, List.lookup_cons] at h
    by_cases hk : k = p.key
    · subst hk; simp at h; exact ⟨by simp, p, by simp, h⟩
    · have : (k == p.key) = false := by simp [hk]
      rw [this] at h
      obtain ⟨h1, q, h2, h3⟩ := ih h
      exact ⟨by simp [h1], q, by simp [h2], h3⟩

/-- the program's expansion of a list -/
def expandP (t : Topology) (ps : List Policy) (node : Int) (l : List Segment) : List Segment × Int :=
  if polsValid t ps = false ∨ l.all (·.valid t) = false then ([], 1)
  else if node < 0 ∨ t.nodes ≤ node then ([], 2)
  else if (runL (segP t ps ps.length []) ⟨[], node⟩ l).2 ≠ 0 then ([], (runL (segP t ps ps.length []) ⟨[], node⟩ l).2) else ((runL (segP t ps ps.length []) ⟨[], node⟩ l).1.out, 0)
theorem pol_put {ps : List Policy} {i : Nat} (hi : i < ps.length) (hn : (ps.map Policy.key).Nodup) : putM ks2 (.agg [ai ps[i].node, ai ps[i].binding]) (asl (ps[i].list.map Segment.enc)) (eMap eSegs (polL (ps.take i))) = eMap eSegs (polL (ps.take (i + 1))) := by
  have hk : (polL (ps.take i)).lookup ps[i].key = none := by
    rw [lookup_none]
    intro hm
    rw [show (polL (ps.take i)).map (·.1) = (ps.take i).map Policy.key by simp [polL, Function.comp_def]] at hm
    exact dup_all hi hm hn
  have := putM2 ps[i].key eSegs ps[i].list _ hk
  rw [List.take_succ_eq_append_getElem hi, show polL (ps.take i ++ [ps[i]]) = polL (ps.take i) ++ [(ps[i].key, ps[i].list)] by unfold polL; rw [List.map_append]; rfl]
  exact this

end Go.Proofs.YtakkfpiibeokiaaDoor.Vm
/- Contracts: numbers and texts of the references. -/
set_option linter.all false
namespace Go.Proofs.YtakkfpiibeokiaaDoor.Vm
open Go
set_option maxRecDepth 100000

def dig (n : Nat) : UInt8 := UInt8.ofNat (48 + n % 10)
def digF : Nat → Nat → List UInt8
  | 0, _ => []
  | k + 1, n => if n < 10 then [dig n] else digF k (n / 10) ++ [dig (n % 10)]
def digits (n : Nat) : List UInt8 := digF 20 n
theorem digF_len : ∀ (k n : Nat), (digF k n).length ≤ k := by
  intro k
  induction k with
  | zero => intro n; exact Nat.le_refl _
  | succ k ih =>
    intro n
    unfold digF
    split
    · simp
    · have := ih (n / 10); simp; omega
theorem u8_dig {n : Int} (h0 : 0 ≤ n) (h : n < 10) : UInt8.ofNat (IntKind.u8.wrap (IntKind.u64.wrap (48 + n))).toNat = dig n.toNat := by
  have e : IntKind.u8.wrap (IntKind.u64.wrap (48 + n)) = 48 + n := by
    obtain ⟨m, rfl⟩ := Int.eq_ofNat_of_zero_le h0
    have : m < 10 := by omega
    rcases m with _ | _ | _ | _ | _ | _ | _ | _ | _ | _ | m <;> first | rfl | omega
  rw [e]; unfold dig; congr 1; omega
theorem wrap_u64 {n : Int} (h0 : 0 ≤ n) (h : n < 18446744073709551616) : IntKind.u64.wrap n = n := by
  show (n % 18446744073709551616 : Int) = n
  omega

theorem digits_c : ∀ (k : Nat) (n : Int), k ≤ 20 → 0 ≤ n → n < 18446744073709551616 → n < (10 : Int) ^ k → 1 ≤ k → PureCall Tryd.prog F.ref09_digits [.int .u64 n] (.str (digF k n.toNat)) := by
  intro k
  induction k with
  | zero => intro n _ _ _ _ h; omega
  | succ k ih =>
    intro n hk h0 h1 h2 _
    refine contractS fits K.ref09_digits ?_
    have hrec : ¬ n < 10 → PureCall Tryd.prog F.ref09_digits [.int .u64 (IntKind.u64.wrap (n.tdiv 10))] (.str (digF k (n / 10).toNat)) := fun h10 => by
      rw [Int.tdiv_eq_ediv_of_nonneg h0, wrap_u64 (by omega) (by omega)]
      have hk1 : 1 ≤ k := by
        rcases Nat.eq_zero_or_pos k with rfl | h
        · simp at h2; omega
        · exact h
      exact ih (n / 10) (by omega) (by omega) (by omega) (by rw [Int.pow_succ] at h2; omega) hk1
    repeat' (first
      | (exfalso; revert h; decide)
      | ((with_reducible refine step ?_); conv => whnf)
      | (with_reducible refine And.intro (fun h => ?_) (fun h => ?_))
      | (with_reducible refine And.intro (show (_ : Int) ≠ 0 by decide) ?_; conv => whnf)
      | (refine call_pure (hrec (by simpa using h)) rfl rfl ?_; conv => whnf)
      | (refine And.intro (by have := digF_len k (n / 10).toNat; show _ + 1 ≤ _; omega) ?_; conv => whnf)
      | fail)
    all_goals simp only [decide_eq_true_eq, decide_eq_false_iff_not] at h
    · rw [u8_dig h0 h, digF, if_pos (by omega)]
    · rw [Int.tmod_eq_emod_of_nonneg h0, u8_dig (by omega) (by omega), digF, if_neg (by omega), show (n / 10).toNat = n.toNat / 10 by omega, show (n % 10).toNat = n.toNat % 10 by omega]

def number (n : Int) : List UInt8 := if n < 0 then 45 :: digits (-n).toNat else digits n.toNat
theorem number_len (n : Int) : (number n).length ≤ 21 := by
  unfold number digits
  split
  · have := digF_len 20 (-n).toNat; simp; omega
  · have := digF_len 20 n.toNat; omega
theorem number_c (n : Int) (h : i64 n) : PureCall Tryd.prog F.ref09_Number [ai n] (.str (number n)) := by
  unfold i64 at h
  refine contractS fits K.ref09_Number ?_
  have hneg : n < 0 → PureCall Tryd.prog F.ref09_digits [.int .u64 (IntKind.u64.wrap (IntKind.u64.wrap (IntKind.i64.wrap (0 - IntKind.i64.wrap (n + 1))) + 1))] (.str (digits (-n).toNat)) := fun h0 => by
    rw [wrap_in (n := n + 1) (by omega), wrap_in (by omega), wrap_u64 (n := 0 - (n + 1)) (by omega) (by omega), wrap_u64 (by omega) (by omega)]
    have := digits_c 20 (0 - (n + 1) + 1) (by omega) (by omega) (by omega) (by omega) (by omega)
    rwa [show (0 - (n + 1) + 1).toNat = (-n).toNat by omega] at this
  have hpos : ¬ n < 0 → PureCall Tryd.prog F.ref09_digits [.int .u64 (IntKind.u64.wrap n)] (.str (digits n.toNat)) := fun h0 => by
    rw [wrap_u64 (by omega) (by omega)]
    exact digits_c 20 n (by omega) (by omega) (by omega) (by omega) (by omega)
  repeat' (first
      | ((with_reducible refine step ?_); conv => whnf)
      | (with_reducible refine And.intro (fun h => ?_) (fun h => ?_))
      | (refine call_pure (hneg (by simpa using h)) rfl rfl ?_; conv => whnf)
      | (refine call_pure (hpos (by simpa using h)) rfl rfl ?_; conv => whnf)
      | (refine And.intro (by have := digF_len 20 (-n).toNat; show 1 + (digF 20 (-n).toNat).length ≤ _; omega) ?_; conv => whnf)
      | fail)
  all_goals simp only [decide_eq_true_eq, decide_eq_false_iff_not] at *
  · rw [number, if_pos (by assumption)]; rfl
  · rw [number, if_neg (by assumption)]

/-- the number that a text is read as -/
def valueF (l : List UInt8) : Int := (l.take 9).foldl (fun v c => 10 * v + (c.toNat : Int) - 48) 0
def bnd (i : Nat) : Int := 30 * ((10 : Int) ^ i - 1)
theorem value_bnd (l : List UInt8) : - bnd l.length ≤ l.foldl (fun v (c : UInt8) => 10 * v + (c.toNat : Int) - 48) 0 ∧ l.foldl (fun v (c : UInt8) => 10 * v + (c.toNat : Int) - 48) 0 ≤ bnd l.length := by
  rw [← List.reverse_reverse l]
  generalize l.reverse = r
  induction r with
  | nil => decide
  | cons c r ih =>
    rw [List.reverse_cons, List.foldl_append, List.length_append]
    simp only [List.foldl_cons, List.foldl_nil, List.length_cons, List.length_nil]
    generalize (r.reverse.foldl (fun v (c : UInt8) => 10 * v + (c.toNat : Int) - 48) 0) = v at ih ⊢
    generalize r.reverse.length = n at ih ⊢
    unfold bnd at ih ⊢
    have hc : (c.toNat : Int) < 256 := by have := c.toNat_lt; omega
    rw [show n + (0 + 1) = n + 1 by omega, Int.pow_succ]
    generalize (10 : Int) ^ n = p at ih ⊢
    omega
theorem bnd9 {i : Nat} (h : i ≤ 9) : bnd i ≤ 29999999970 := by
  unfold bnd
  have : i = 0 ∨ i = 1 ∨ i = 2 ∨ i = 3 ∨ i = 4 ∨ i = 5 ∨ i = 6 ∨ i = 7 ∨ i = 8 ∨ i = 9 := by omega
  rcases this with rfl | rfl | rfl | rfl | rfl | rfl | rfl | rfl | rfl | rfl <;> decide
theorem foldl_take_succ (l : List UInt8) (i : Nat) (hi : i < l.length) : (l.take (i + 1)).foldl (fun v (c : UInt8) => 10 * v + (c.toNat : Int) - 48) 0 = 10 * (l.take i).foldl (fun v (c : UInt8) => 10 * v + (c.toNat : Int) - 48) 0 + (l[i].toNat : Int) - 48 := by
  rw [List.take_succ_eq_append_getElem hi, List.foldl_append]; rfl
theorem u8_i64 (c : UInt8) : IntKind.i64.wrap (c.toNat : Int) = c.toNat := wrap_in (by have := c.toNat_lt; omega)

theorem value_c (l : List UInt8) (hl : l.length < 4611686018427387904) : PureCall Tryd.prog F.ref09_Value [.str l] (ai (valueF l)) := by
  refine contractS fits K.ref09_Value ?_
  repeat' (first
      | ((with_reducible refine step ?_); conv => whnf)
      | fail)
  refine loop_invS (fun i => i ≤ l.length ∧ i ≤ 9) [0, 3, 4] 0 (fun i => [(3, ai ((l.take i).foldl (fun v (c : UInt8) => 10 * v + (c.toNat : Int) - 48) 0)), (4, ai i)]) (fun _ => []) (fun i => 9 - i) 0 (by decide) (by decide) ?_
  conv => whnf
  refine ⟨rfl, rfl, by omega, fun i ⟨hi, h9⟩ => ?_⟩
  repeat' (first
      | ((with_reducible refine step ?_); conv => whnf)
      | (with_reducible refine And.intro (fun h => ?_) (fun h => ?_))
      | (refine And.intro (Int.natCast_nonneg i) (Exists.intro l[i] (And.intro (by simp) ?_)); conv => whnf)
      | (have hlt : i < l.length := (by simp_all); refine And.intro (Int.natCast_nonneg i) (Exists.intro l[i] (And.intro (by simp) ?_)); conv => whnf)
      | fail)
  all_goals simp only [decide_eq_true_eq, decide_eq_false_iff_not] at *
  · refine ⟨i + 1, by omega, by omega, ?_, rfl⟩
    have b1 := value_bnd (l.take i)
    have b2 := bnd9 (i := (l.take i).length) (by rw [List.length_take]; omega)
    have hc : (l[i].toNat : Int) < 256 := by have := l[i].toNat_lt; omega
    rw [foldl_take_succ l i hlt]
    generalize (l.take i).foldl (fun v (c : UInt8) => 10 * v + (c.toNat : Int) - 48) 0 = v at b1 ⊢
    generalize bnd (l.take i).length = bb at b1 b2
    rw [u8_i64, wrap_in (n := 10 * v) (by omega), wrap_in (n := 10 * v + _) (by omega), wrap_in (by omega), wrap_succ (by omega)]
    rfl
  · have : i = 9 := by omega
    subst this; rfl
  · rw [valueF, show l.take i = l.take 9 by rw [List.take_of_length_le (by omega), List.take_of_length_le (by omega)]]

def eStr (l : List UInt8) : List AV := [.str l]
/-- the parts of a text that end with a byte, and what follows the last one -/
def splitF (e : UInt8) : List UInt8 → List UInt8 → List (List UInt8) × List UInt8
  | [], cur => ([], cur)
  | c :: l, cur => if c = e then (cur :: (splitF e l []).1, (splitF e l []).2) else splitF e l (cur ++ [c])
theorem splitF_snoc (e c : UInt8) : ∀ (l cur : List UInt8), splitF e (l ++ [c]) cur = if c = e then ((splitF e l cur).1 ++ [(splitF e l cur).2], []) else ((splitF e l cur).1, (splitF e l cur).2 ++ [c]) := by
  intro l
  induction l with
  | nil =>
    intro cur
    show (if c = e then ([cur], []) else ([], cur ++ [c])) = _
    split <;> rfl
  | cons x l ih =>
    intro cur
    show (if x = e then (cur :: (splitF e (l ++ [c]) []).1, (splitF e (l ++ [c]) []).2) else splitF e (l ++ [c]) (cur ++ [x])) = _
    by_cases hx : x = e
    · rw [if_pos hx, ih]
      have : splitF e (x :: l) cur = (cur :: (splitF e l []).1, (splitF e l []).2) := by show (if x = e then _ else _) = _; rw [if_pos hx]
      rw [this]
      by_cases hc : c = e
      · rw [if_pos hc, if_pos hc]; rfl
      · rw [if_neg hc, if_neg hc]
    · rw [if_neg hx, ih]
      have : splitF e (x :: l) cur = splitF e l (cur ++ [x]) := by show (if x = e then _ else _) = _; rw [if_neg hx]
      rw [this]
theorem splitF_cur (e : UInt8) (l : List UInt8) : (splitF e l []).2.length ≤ l.length ∧ l.drop (l.length - (splitF e l []).2.length) = (splitF e l []).2 ∧ (splitF e l []).1.length ≤ l.length := by
  rw [← List.reverse_reverse l]
  generalize l.reverse = r
  induction r with
  | nil => exact ⟨Nat.le_refl _, rfl, Nat.le_refl _⟩
  | cons c r ih =>
    rw [List.reverse_cons, splitF_snoc]
    obtain ⟨h1, h2, h3⟩ := ih
    have hrr : r.reverse.length = r.length := List.length_reverse
    split
    · refine ⟨by simp, by simp, by simp; omega⟩
    · refine ⟨by simp; omega, ?_, by simp; omega⟩
      simp only [List.length_append, List.length_cons, List.length_nil]
      rw [show r.reverse.length + (0 + 1) - ((splitF e r.reverse []).2.length + (0 + 1)) = r.reverse.length - (splitF e r.reverse []).2.length by omega, List.drop_append_of_le_length (by omega), h2]

def split9 (l : List UInt8) (e : UInt8) : List (List UInt8) × Bool := ((splitF e l []).1, decide ((splitF e l []).2 = []))
theorem split9_c (l : List UInt8) (e : UInt8) (hl : l.length < 1099511627776) : PureCall Tryd.prog F.ref09_Split [.str l, .int .u8 e.toNat] (.tuple [asl ((split9 l e).1.map eStr), .bool (split9 l e).2]) := by
  refine contractS fits K.ref09_Split ?_
  repeat' (first
      | ((with_reducible refine step ?_); conv => whnf)
      | fail)
  refine loop_promoteD (k := 6) (esz := 1) rfl (by decide) ?_
  refine loop_invS (fun i => i ≤ l.length) [0, 1, 6, 7, 8] 1 (fun i => [(7, ai ((i - (splitF e (l.take i) []).2.length : Nat) : Int)), (8, ai i)]) (fun i => [(0, .arr 0 1 none ((splitF e (l.take i) []).1.map eStr) false)]) (fun i => l.length - i) 0 (by decide) (by decide) ?_
  conv => whnf
  refine ⟨rfl, rfl, by omega, fun i hi => ?_⟩
  have hcur := splitF_cur e (l.take i)
  have hti : (l.take i).length = i := by rw [List.length_take]; omega
  rw [hti] at hcur
  repeat' (first
      | ((with_reducible refine step ?_); conv => whnf)
      | (with_reducible refine And.intro (fun h => ?_) (fun h => ?_))
      | (have hlt : i < l.length := (by simp_all); refine And.intro (Int.natCast_nonneg i) (Exists.intro l[i] (And.intro (by simp) ?_)); conv => whnf)
      | (refine And.intro ⟨Int.natCast_nonneg _, Int.ofNat_le.2 (Nat.sub_le _ _), Int.ofNat_le.2 hi⟩ ?_; conv => whnf)
      | (refine And.intro ?_ ?_; (focus (simp [elemsOk, AV.oneC, big]; (try omega); done)); conv => whnf)
      | fail)
  all_goals try simp only [decide_eq_true_eq, decide_eq_false_iff_not] at *
  · have hce : l[i] = e := UInt8.toNat_inj.1 (by omega)
    have hs : splitF e (l.take (i + 1)) [] = ((splitF e (l.take i) []).1 ++ [(splitF e (l.take i) []).2], []) := by rw [List.take_succ_eq_append_getElem hlt, splitF_snoc, if_pos hce]
    refine ⟨i + 1, by omega, by omega, ?_, ?_⟩
    · rw [hs, wrap_succ (by omega)]; rfl
    · rw [hs, List.map_append, Int.toNat_natCast, Int.toNat_natCast, hcur.2.1]; rfl
  · have hce : ¬ l[i] = e := fun he => h (by rw [he])
    have hs : splitF e (l.take (i + 1)) [] = ((splitF e (l.take i) []).1, (splitF e (l.take i) []).2 ++ [l[i]]) := by rw [List.take_succ_eq_append_getElem hlt, splitF_snoc, if_neg hce]
    refine ⟨i + 1, by omega, by omega, ?_, ?_⟩
    · rw [hs, wrap_succ (by omega), show i + 1 - ((splitF e (l.take i) []).2 ++ [l[i]]).length = i - (splitF e (l.take i) []).2.length by simp]; rfl
    · rw [hs]; rfl
  · have hil : i = l.length := by omega
    subst hil
    rw [List.take_length] at hcur ⊢
    have : decide (((l.length - (splitF e l []).2.length : Nat) : Int) = (l.length : Int)) = decide ((splitF e l []).2 = []) := by
      rw [decide_eq_decide]
      constructor
      · intro h; exact List.eq_nil_of_length_eq_zero (by omega)
      · intro h; rw [h]; simp
    rw [this]; rfl

/-- a segment's text -/
def letter (k : Int) : UInt8 := if k = 1 then 110 else if k = 2 then 97 else if k = 3 then 103 else 98
def segText (s : Segment) : List UInt8 := if 1 ≤ s.kind ∧ s.kind ≤ 4 ∧ 0 ≤ s.num ∧ s.num ≤ 999999999 then letter s.kind :: number s.num else []
theorem segText_len (s : Segment) : (segText s).length ≤ 22 := by
  unfold segText
  split
  · have := number_len s.num; simp; omega
  · simp
theorem segText_c (s : Segment) : PureCall Tryd.prog F.ref18_Text [.agg s.enc] (.str (segText s)) := by
  have hno : (s.kind < 1 ∨ 4 < s.kind ∨ s.num < 0 ∨ 999999999 < s.num) → segText s = [] := fun h => by rw [segText, if_neg (by omega)]
  by_cases hk : s.kind = 1 ∨ s.kind = 2 ∨ s.kind = 3 ∨ s.kind = 4
  · obtain ⟨kind, n⟩ := s
    dsimp only at hk hno
    rcases hk with rfl | rfl | rfl | rfl
    all_goals
      refine contractS fits K.ref18_Text ?_
      repeat' (first
        | (exfalso; revert h; decide)
        | ((with_reducible refine step ?_); conv => whnf)
        | (with_reducible refine And.intro (fun h => ?_) (fun h => ?_))
        | (refine call_pure (number_c n (by simp at *; unfold i64; omega)) rfl rfl ?_; conv => whnf)
        | (refine Exists.intro _ (And.intro rfl (And.intro (by decide) ?_)); conv => whnf)
        | (refine And.intro (by have := number_len n; show 1 + (number n).length ≤ _; omega) ?_; conv => whnf)
        | fail)
      all_goals simp only [decide_eq_true_eq, decide_eq_false_iff_not] at *
      all_goals first
        | (rw [hno (by omega)]; done)
        | (rw [segText, if_pos (by simp; omega)]; rfl)
  · refine contractS fits K.ref18_Text ?_
    repeat' (first
        | (exfalso; revert h; decide)
        | ((with_reducible refine step ?_); conv => whnf)
        | (with_reducible refine And.intro (fun h => ?_) (fun h => ?_))
        | fail)
    all_goals simp only [decide_eq_true_eq, decide_eq_false_iff_not] at *
    all_goals first
        | (rw [hno (by omega)]; done)
        | (exfalso; omega)
/-- the segment with a text -/
def segParse (l : List UInt8) : Segment × Int :=
  if l.length ≤ 1 then (⟨0, 0⟩, 3)
  else if segText ⟨1, valueF (l.drop 1)⟩ = l then (⟨1, valueF (l.drop 1)⟩, 0)
  else if segText ⟨2, valueF (l.drop 1)⟩ = l then (⟨2, valueF (l.drop 1)⟩, 0)
  else if segText ⟨3, valueF (l.drop 1)⟩ = l then (⟨3, valueF (l.drop 1)⟩, 0)
  else if segText ⟨4, valueF (l.drop 1)⟩ = l then (⟨4, valueF (l.drop 1)⟩, 0)
  else (⟨0, 0⟩, 3)
theorem segParse_c (l : List UInt8) (hl : l.length < 1099511627776) : PureCall Tryd.prog F.ref18_Parse [.str l] (.tuple [.agg (segParse l).1.enc, ai (segParse l).2]) := by
  refine contractS fits K.ref18_Parse ?_
  have hv := value_c (l.drop 1) (by simp; omega)
  repeat' (first
      | (exfalso; revert h; decide)
      | ((with_reducible refine step ?_); conv => whnf)
      | (with_reducible refine And.intro (fun h => ?_) (fun h => ?_))
      | (refine loop_fuelD 6 ?_; conv => whnf)
      | (refine call_pure hv rfl rfl ?_; conv => whnf)
      | (refine call_pure (segText_c ⟨1, valueF (l.drop 1)⟩) rfl rfl ?_; conv => whnf)
      | (refine call_pure (segText_c ⟨2, valueF (l.drop 1)⟩) rfl rfl ?_; conv => whnf)
      | (refine call_pure (segText_c ⟨3, valueF (l.drop 1)⟩) rfl rfl ?_; conv => whnf)
      | (refine call_pure (segText_c ⟨4, valueF (l.drop 1)⟩) rfl rfl ?_; conv => whnf)
      | (refine And.intro ⟨by decide, by simp at *; omega⟩ ?_; conv => whnf)
      | fail)
  all_goals try simp only [decide_eq_true_eq, decide_eq_false_iff_not] at *
  · rw [segParse, if_neg (by omega), if_pos (by assumption)]; rfl
  · rw [segParse, if_neg (by omega), if_neg (by assumption), if_pos (by assumption)]; rfl
  · rw [segParse, if_neg (by omega), if_neg (by assumption), if_neg (by assumption), if_pos (by assumption)]; rfl
  · rw [segParse, if_neg (by omega), if_neg (by assumption), if_neg (by assumption), if_neg (by assumption), if_pos (by assumption)]; rfl
  · rw [segParse, if_neg (by omega), if_neg (by assumption), if_neg (by assumption), if_neg (by assumption), if_neg (by assumption)]; rfl
  all_goals (rw [segParse, if_pos (by omega)]; rfl)
end Go.Proofs.YtakkfpiibeokiaaDoor.Vm
/- Contracts: lists of segments and their texts; what a query may be. -/
set_option linter.all false
namespace Go.Proofs.YtakkfpiibeokiaaDoor.Vm
open Go
set_option maxRecDepth 100000

/-- words with spaces between them -/
def joinSp : List (List UInt8) → List UInt8
  | [] => []
  | x :: l => match l with
    | [] => x
    | _ => x ++ 32 :: joinSp l
theorem joinSp_snoc (x : List UInt8) : ∀ l : List (List UInt8), joinSp (l ++ [x]) = if l = [] then x else joinSp l ++ [32] ++ x := by
  intro l
  induction l with
  | nil => rfl
  | cons y l ih =>
    cases l with
    | nil => simp [joinSp]
    | cons z l =>
      rw [if_neg (by simp)] at ih ⊢
      show y ++ 32 :: joinSp (z :: l ++ [x]) = y ++ 32 :: joinSp (z :: l) ++ [32] ++ x
      rw [ih]; simp
theorem joinSp_len (n : Nat) : ∀ l : List (List UInt8), (∀ x ∈ l, x.length ≤ n) → (joinSp l).length ≤ (n + 1) * l.length := by
  intro l
  induction l with
  | nil => intro _; exact Nat.le_refl _
  | cons y l ih =>
    intro h
    have h1 := h y (by simp)
    have h2 := ih fun x hx => h x (List.mem_cons_of_mem _ hx)
    cases l with
    | nil => simp [joinSp]; omega
    | cons z l =>
      show (y ++ 32 :: joinSp (z :: l)).length ≤ _
      rw [List.length_append, List.length_cons, List.length_cons (a := y), Nat.mul_succ]
      omega
def textList (l : List Segment) : List UInt8 := if l.all fun s => decide (segText s ≠ []) then joinSp (l.map segText) else []
theorem joinSp_step {l : List Segment} {i : Nat} (hi : i < l.length) : joinSp ((l.take (i + 1)).map segText) = if i = 0 then segText l[i] else joinSp ((l.take i).map segText) ++ [32] ++ segText l[i] := by
  rw [List.take_succ_eq_append_getElem hi, List.map_append]
  show joinSp (_ ++ [segText l[i]]) = _
  rw [joinSp_snoc]
  by_cases h0 : i = 0
  · subst h0; rfl
  · rw [if_neg h0, if_neg]
    rw [List.map_eq_nil_iff, List.take_eq_nil_iff]
    rintro (h | h)
    · exact h0 h
    · rw [h] at hi; exact nomatch hi
theorem joinSp_take {l : List Segment} (i : Nat) : (joinSp ((l.take i).map segText)).length ≤ 23 * l.length := by
  refine Nat.le_trans (joinSp_len 22 _ ?_) ?_
  · simp only [List.mem_map]
    rintro x ⟨s, _, rfl⟩
    exact segText_len s
  · simp only [List.length_map, List.length_take]; omega

theorem textList_c (l : List Segment) (hl : l.length < 1099511627776) : PureCall Tryd.prog F.ref18_TextList [asl (l.map Segment.enc)] (.str (textList l)) := by
  refine contractS fits K.ref18_TextList ?_
  repeat' (first
      | ((with_reducible refine step ?_); conv => whnf)
      | fail)
  refine loop_invS (fun i => i ≤ l.length ∧ ∀ s ∈ l.take i, decide (segText s ≠ []) = true) [0, 3, 4] 0 (fun i => [(3, .str (joinSp ((l.take i).map segText))), (4, ai i)]) (fun _ => []) (fun i => l.length - i) 0 (by decide) (by decide) ?_
  conv => whnf
  refine ⟨rfl, rfl, by simp, fun i ⟨hi, hp⟩ => ?_⟩
  have hlen := joinSp_take (l := l) i
  repeat' (first
      | ((with_reducible refine step ?_); conv => whnf)
      | (with_reducible refine And.intro (fun h => ?_) (fun h => ?_))
      | (have hlt : i < l.length := (by first | assumption | simp_all); refine idx_nat hlt rfl ?_; conv => whnf)
      | (refine call_pure (segText_c _) rfl rfl ?_; conv => whnf)
      | (refine And.intro (by have h1 := segText_len l[i]; have h2 : [(32 : UInt8)].length = 1 := rfl; (try simp only [List.length_append]); omega) ?_; conv => whnf)
      | fail)
  all_goals try simp only [List.length_map, decide_eq_true_eq, decide_eq_false_iff_not] at *
  · rw [textList, if_neg]
    rw [List.all_eq_true]; intro hh
    have := hh l[i] (List.getElem_mem hlt)
    simp at this; exact this h
  · refine ⟨i + 1, ⟨by omega, fun s hs => ?_⟩, by omega, by rw [wrap_succ (by omega), joinSp_step hlt, if_neg (by omega)]; rfl, rfl⟩
    rw [List.take_succ_eq_append_getElem hlt, List.mem_append] at hs
    rcases hs with hs | hs
    · exact hp s hs
    · simp at hs; subst hs; assumption
  · have h0 : i = 0 := by omega
    subst h0
    refine ⟨0 + 1, ⟨by omega, fun s hs => ?_⟩, by omega, by rw [wrap_succ (by omega), joinSp_step hlt, if_pos rfl]; rfl, rfl⟩
    rw [List.take_succ_eq_append_getElem hlt, List.mem_append] at hs
    rcases hs with hs | hs
    · exact hp s hs
    · simp at hs; subst hs; assumption
  · obtain rfl : i = l.length := by omega
    rw [List.take_length] at hp ⊢
    rw [textList, if_pos]
    rw [List.all_eq_true]; intro s hs; simpa using hp s hs

/-- the list with a text -/
def parseL : List (List UInt8) → List Segment × Int
  | [] => ([], 0)
  | w :: l => if (segParse w).2 ≠ 0 then ([], (segParse w).2) else if (parseL l).2 ≠ 0 then ([], (parseL l).2) else ((segParse w).1 :: (parseL l).1, 0)
theorem parseL_ok : ∀ ws : List (List UInt8), (∀ w ∈ ws, (segParse w).2 = 0) → parseL ws = (ws.map fun w => (segParse w).1, 0) := by
  intro ws
  induction ws with
  | nil => intro _; rfl
  | cons w ws ih =>
    intro h
    rw [parseL, if_neg (by rw [h w (by simp)]; simp), ih fun x hx => h x (List.mem_cons_of_mem _ hx)]
    rfl
theorem parseL_no (w : List UInt8) (post : List (List UInt8)) (hw : (segParse w).2 ≠ 0) : ∀ ws : List (List UInt8), (∀ w ∈ ws, (segParse w).2 = 0) → parseL (ws ++ w :: post) = ([], (segParse w).2) := by
  intro ws
  induction ws with
  | nil => intro _; rw [List.nil_append, parseL, if_pos hw]
  | cons v ws ih =>
    intro h
    rw [List.cons_append, parseL, if_neg (by rw [h v (by simp)]; simp), ih fun x hx => h x (List.mem_cons_of_mem _ hx), if_pos hw]
def textParse (l : List UInt8) : List Segment × Int := if l = [] then ([], 0) else parseL (split9 (l ++ [32]) 32).1
theorem splitF_in (e : UInt8) : ∀ (l cur : List UInt8) (w : List UInt8), w ∈ (splitF e l cur).1 → w.length ≤ cur.length + l.length := by
  intro l
  induction l with
  | nil => intro cur w h; exact nomatch h
  | cons c l ih =>
    intro cur w h
    unfold splitF at h
    split at h
    · rcases List.mem_cons.1 h with rfl | h
      · simp
      · have := ih _ _ h; simp at this ⊢; omega
    · have := ih _ _ h; simp at this ⊢; omega
theorem textParse_c (l : List UInt8) (hl : l.length < 1073741824) : PureCall Tryd.prog F.ref18_ParseList [.str l] (.tuple [asl ((textParse l).1.map Segment.enc), ai (textParse l).2]) := by
  refine contractS fits K.ref18_ParseList ?_
  have hw : ∀ w ∈ (split9 (l ++ [32]) 32).1, w.length < 1099511627776 := fun w hw => by
    have := splitF_in _ _ _ _ hw
    simp at this; omega
  have hn := (splitF_cur 32 (l ++ [32])).2.2
  rw [List.length_append, List.length_singleton] at hn
  have hdef : l ≠ [] → textParse l = parseL (split9 (l ++ [32]) 32).1 := fun h => by rw [textParse, if_neg h]
  have hnn : (split9 (l ++ [32]) 32).1.length ≤ l.length + 1 := hn
  have hs9 := split9_c (l ++ [32]) 32 (by simp; omega)
  generalize split9 (l ++ [32]) 32 = ws at hw hnn hdef hs9
  obtain ⟨ws, wb⟩ := ws
  dsimp only at hw hnn hdef hs9
  repeat' (first
      | ((with_reducible refine step ?_); conv => whnf)
      | (with_reducible refine And.intro (fun h => ?_) (fun h => ?_))
      | (refine call_pure hs9 rfl rfl ?_; conv => whnf)
      | (refine And.intro (by simp [big]; omega) ?_; conv => whnf)
      | fail)
  · rw [textParse, if_pos (by simpa using h)]; rfl
  rw [hdef (by simpa using h)]
  refine loop_promoteD (k := 6) (esz := 2) rfl (by decide) ?_
  refine loop_invS (fun i => i ≤ ws.length ∧ ∀ w ∈ ws.take i, (segParse w).2 = 0) [4, 6, 7] 1 (fun i => [(7, ai i)]) (fun i => [(0, .arr 0 2 none ((ws.take i).map fun w => (segParse w).1.enc) false)]) (fun i => ws.length - i) 0 (by decide) (by decide) ?_
  conv => whnf
  refine ⟨rfl, rfl, by simp, fun i ⟨hi, hp⟩ => ?_⟩
  repeat' (first
      | ((with_reducible refine step ?_); conv => whnf)
      | (with_reducible refine And.intro (fun h => ?_) (fun h => ?_))
      | (have hlt : i < ws.length := (by first | assumption | simp_all); refine idx_nat hlt rfl ?_; conv => whnf)
      | (refine call_pure (segParse_c ws[i] (hw _ (List.getElem_mem hlt))) rfl rfl ?_; conv => whnf)
      | (refine And.intro ?_ ?_; (focus (simp [elemsOk, AV.oneC, big]; (try omega); done)); conv => whnf)
      | fail)
  all_goals try simp only [List.length_map, decide_eq_true_eq, decide_eq_false_iff_not, Bool.not_eq_true', Bool.not_eq_false'] at *
  · have hd : ws = ws.take i ++ ws[i] :: ws.drop (i + 1) := by rw [List.getElem_cons_drop_succ_eq_drop, List.take_append_drop]
    have he : parseL ws = ([], (segParse ws[i]).2) := by
      rw [congrArg parseL hd]; exact parseL_no _ _ h _ hp
    rw [he]; rfl
  · refine ⟨i + 1, ⟨by omega, fun s hs => ?_⟩, by omega, by rw [wrap_succ (by omega)]; rfl, by rw [List.take_succ_eq_append_getElem hlt, List.map_append]; rfl⟩
    rw [List.take_succ_eq_append_getElem hlt, List.mem_append] at hs
    rcases hs with hs | hs
    · exact hp s hs
    · simp at hs; subst hs; exact h
  · obtain rfl : i = ws.length := by omega
    rw [List.take_length] at hp ⊢
    rw [parseL_ok _ hp, List.map_map]; rfl

def lineT : Topology := ⟨4, [], [⟨0, 1, 1, 1, 0, 1, 0⟩, ⟨1, 2, 1, 1, 0, 1, 0⟩, ⟨2, 3, 1, 1, 0, 1, 0⟩]⟩
end Go.Proofs.YtakkfpiibeokiaaDoor.Vm
/- Contracts: texts of segments; lists of strings. -/
set_option linter.all false
namespace Go.Proofs.YtakkfpiibeokiaaDoor.Vm
open Go Go.RowKit
set_option maxRecDepth 100000
set_option maxHeartbeats 4000000
theorem vals1 {vals : Array Value} (h : 1 = vals.size) : ∃ a, vals = #[a] := by
  refine ⟨vals[0], ?_⟩
  ext i hi hi'
  · simp; omega
  · have : i = 0 := by omega
    subst this; rfl
theorem vals2 {vals : Array Value} (h : 2 = vals.size) : ∃ a b, vals = #[a, b] := by
  refine ⟨vals[0], vals[1], ?_⟩
  ext i hi hi'
  · simp; omega
  · have : i = 0 ∨ i = 1 := by omega
    rcases this with rfl | rfl <;> rfl
/-- a list of strings, in memory -/
theorem strs_of {g : Gh} {w : World} {ws : List (List UInt8)} {v : Value} (h : Rel g w (asl (ws.map eStr)) v) (hs : ∀ b x, g.stab b x → b < w.heap.size) :
    (ws = [] ∧ ∃ a c, v = .slice a 0 c) ∨ ∃ b o cap, v = .slice (some ⟨b, o, none⟩) ws.length cap ∧ ws.length ≤ cap ∧ b < w.heap.size ∧ ∀ (j : Nat) x, ws[j]? = some x → w.cell? ⟨b, o + j, none⟩ = some (.string ⟨x.toArray⟩) := by
  rcases inv_sl h with ⟨h0, a, h1, h2, rfl⟩ | ⟨b, o, cap, vs, h0, h1, h2, h3, h4, h5, rfl⟩
  · exact .inl ⟨by simpa using h0, a, 0, rfl⟩
  · by_cases hw : ws = []
    · subst hw; exact .inl ⟨rfl, _, cap, rfl⟩
    · refine .inr ⟨b, o, cap, by rw [List.length_map], by simpa using h1, ?_, fun j x hj => ?_⟩
      · obtain ⟨x, r, rfl⟩ := List.exists_cons_of_ne_nil hw
        exact hs b _ (h5 0 [.str x] 0 rfl (Nat.zero_lt_one))
      · have hc : (ws.map eStr)[j]? = some [.str x] := by rw [List.getElem?_map, hj]; rfl
        obtain ⟨q1, q2⟩ := h4 j [.str x] 0 (.str x) hc rfl
        have := rel_str q2
        simp only [List.length_cons, List.length_nil, Nat.zero_add, Nat.mul_one, Nat.add_zero] at q1
        rw [q1, this]
theorem bytes_list (x : List UInt8) : (ByteArray.mk x.toArray).data.toList = x := by simp
theorem join_c (ws : List (List UInt8)) (sep : List UInt8) (hl : ws.length ≤ 140737488355328) (hj : (Lib.join ws sep).length ≤ 140737488355328) : PureCall Tryd.prog F.strings_Join [asl (ws.map eStr), .str sep] (.str (Lib.join ws sep)) := by
  refine pure_of_calls (known_of K.strings_Join) fun st w vals hlt htab hl2 hrel => ?_
  obtain ⟨a, b, rfl⟩ := vals2 hl2
  have hb := rel_str (hrel 1 _ b rfl rfl)
  subst hb
  rcases strs_of (hrel 0 _ a rfl rfl) hlt with ⟨rfl, p, c, rfl⟩ | ⟨bk, o, cap, rfl, h1, h2, h3⟩
  · refine (Tryd.strings_Join_none p c ⟨sep.toArray⟩ w).mono fun e w' ⟨he, hw⟩ => ?_
    subst hw
    exact ⟨_, he, Below.refl _ _, .str _⟩
  · have hm : (ws.map fun l => ByteArray.mk l.toArray).map (·.data.toList) = ws := by
      rw [List.map_map]; exact (List.map_congr_left fun x _ => bytes_list x).trans (List.map_id ws)
    have := Tryd.strings_Join bk o cap (ws.map fun l => ⟨l.toArray⟩) ⟨sep.toArray⟩ w (fun j x hx => by
      rw [List.getElem?_map] at hx
      cases hj : ws[j]? with
      | none => rw [hj] at hx; exact nomatch hx
      | some y => rw [hj] at hx; cases hx; exact h3 j y hj) h2 (by simpa using hl) (by simpa using h1) (by rw [hm, bytes_list]; exact hj)
    rw [hm, bytes_list, List.length_map] at this
    exact this.mono fun e w' ⟨he, hb⟩ => ⟨_, he, hb, .str _⟩
end Go.Proofs.YtakkfpiibeokiaaDoor.Vm
/- Contracts: texts of segments (the program's). -/
set_option linter.all false
namespace Go.Proofs.YtakkfpiibeokiaaDoor.Vm
open Go
set_option maxRecDepth 100000
set_option maxHeartbeats 4000000
theorem decDigits_digF : ∀ (k u : Nat), u < 10 ^ (k + 1) → Lib.decDigits u = digF (k + 1) u := by
  intro k
  induction k with
  | zero =>
    intro u h
    have h : u < 10 := by simpa using h
    rw [Lib.decDigits, dif_pos h, digF, if_pos h, dig, Nat.mod_eq_of_lt h]
  | succ k ih =>
    intro u h
    rw [Lib.decDigits]
    split
    · rename_i h'; rw [digF, if_pos h', dig, Nat.mod_eq_of_lt h']
    · rename_i h'
      rw [digF, if_neg h', ih (u / 10) (by rw [Nat.div_lt_iff_lt_mul (by decide)]; rw [Nat.pow_succ] at h; exact h), dig, Nat.mod_mod]
theorem num_number {n : Int} (h : i64 n) : num n = number n := by
  unfold i64 at h
  unfold num Lib.itoa number digits
  split
  · rw [show n.natAbs = (-n).toNat by omega, decDigits_digF 19 _ (by omega)]
  · rw [decDigits_digF 19 _ (by omega)]
theorem itoaN_c (n : Int) (h0 : 0 ≤ n) (h1 : n ≤ 999999999) : PureCall Tryd.prog F.strconv_Itoa [ai n] (.str (number n)) := by
  rw [← num_number (by unfold i64; omega)]
  exact numC n h0 (by omega)
theorem segTextP_c (s : Segment) : PureCall Tryd.prog F.segment_Text [.agg s.enc] (.str (segText s)) := by
  have hno : (s.kind < 1 ∨ 4 < s.kind ∨ s.num < 0 ∨ 999999999 < s.num) → segText s = [] := fun h => by rw [segText, if_neg (by omega)]
  by_cases hk : s.kind = 1 ∨ s.kind = 2 ∨ s.kind = 3 ∨ s.kind = 4
  · obtain ⟨kind, n⟩ := s
    dsimp only at hk hno
    rcases hk with rfl | rfl | rfl | rfl
    · show PureCall Tryd.prog F.segment_Text [.agg [ai 1, ai n]] _
      refine contractS fits K.segment_Text ?_
      repeat' (first
        | (exfalso; revert h; decide)
        | ((with_reducible refine step ?_); conv => whnf)
        | (with_reducible refine And.intro (fun h => ?_) (fun h => ?_))
        | (refine call_pure (itoaN_c n (by simp at *; omega) (by simp at *; omega)) rfl rfl ?_; conv => whnf)
        | (refine And.intro (by refine ⟨?_, ?_, ?_⟩ <;> decide +kernel) ?_; conv => whnf)
        | (refine And.intro (by have := number_len n; show 1 + (number n).length ≤ _; omega) ?_; conv => whnf)
        | fail)
      all_goals simp only [decide_eq_true_eq, decide_eq_false_iff_not] at *
      all_goals first
        | (rw [hno (by omega)]; done)
        | (rw [segText, if_pos (by simp; omega)]; rfl)
    · show PureCall Tryd.prog F.segment_Text [.agg [ai 2, ai n]] _
      refine contractS fits K.segment_Text ?_
      repeat' (first
        | (exfalso; revert h; decide)
        | ((with_reducible refine step ?_); conv => whnf)
        | (with_reducible refine And.intro (fun h => ?_) (fun h => ?_))
        | (refine call_pure (itoaN_c n (by simp at *; omega) (by simp at *; omega)) rfl rfl ?_; conv => whnf)
        | (refine And.intro (by refine ⟨?_, ?_, ?_⟩ <;> decide +kernel) ?_; conv => whnf)
        | (refine And.intro (by have := number_len n; show 1 + (number n).length ≤ _; omega) ?_; conv => whnf)
        | fail)
      all_goals simp only [decide_eq_true_eq, decide_eq_false_iff_not] at *
      all_goals first
        | (rw [hno (by omega)]; done)
        | (rw [segText, if_pos (by simp; omega)]; rfl)
    · show PureCall Tryd.prog F.segment_Text [.agg [ai 3, ai n]] _
      refine contractS fits K.segment_Text ?_
      repeat' (first
        | (exfalso; revert h; decide)
        | ((with_reducible refine step ?_); conv => whnf)
        | (with_reducible refine And.intro (fun h => ?_) (fun h => ?_))
        | (refine call_pure (itoaN_c n (by simp at *; omega) (by simp at *; omega)) rfl rfl ?_; conv => whnf)
        | (refine And.intro (by refine ⟨?_, ?_, ?_⟩ <;> decide +kernel) ?_; conv => whnf)
        | (refine And.intro (by have := number_len n; show 1 + (number n).length ≤ _; omega) ?_; conv => whnf)
        | fail)
      all_goals simp only [decide_eq_true_eq, decide_eq_false_iff_not] at *
      all_goals first
        | (rw [hno (by omega)]; done)
        | (rw [segText, if_pos (by simp; omega)]; rfl)
    · show PureCall Tryd.prog F.segment_Text [.agg [ai 4, ai n]] _
      refine contractS fits K.segment_Text ?_
      repeat' (first
        | (exfalso; revert h; decide)
        | ((with_reducible refine step ?_); conv => whnf)
        | (with_reducible refine And.intro (fun h => ?_) (fun h => ?_))
        | (refine call_pure (itoaN_c n (by simp at *; omega) (by simp at *; omega)) rfl rfl ?_; conv => whnf)
        | (refine And.intro (by refine ⟨?_, ?_, ?_⟩ <;> decide +kernel) ?_; conv => whnf)
        | (refine And.intro (by have := number_len n; show 1 + (number n).length ≤ _; omega) ?_; conv => whnf)
        | fail)
      all_goals simp only [decide_eq_true_eq, decide_eq_false_iff_not] at *
      all_goals first
        | (rw [hno (by omega)]; done)
        | (rw [segText, if_pos (by simp; omega)]; rfl)
  · refine contractS fits K.segment_Text ?_
    repeat' (first
        | (exfalso; revert h; decide)
        | ((with_reducible refine step ?_); conv => whnf)
        | (with_reducible refine And.intro (fun h => ?_) (fun h => ?_))
        | fail)
    all_goals simp only [decide_eq_true_eq, decide_eq_false_iff_not] at *
    all_goals first
        | (rw [hno (by omega)]; done)
        | (exfalso; omega)
def idxStr (l : List (List UInt8)) (x : List UInt8) : Int := match l.findIdx? fun y => decide (x = y) with
  | some i => i
  | none => -1
theorem indexS_c (l : List (List UInt8)) (x : List UInt8) (hl : l.length < 4611686018427387904) : PureCall Tryd.prog F.slices_Index_string [asl (l.map eStr), .str x] (ai (idxStr l x)) := by
  refine contractS fits K.slices_Index_string ?_
  repeat' (first
    | ((with_reducible refine step ?_); conv => whnf)
    | (with_reducible refine And.intro (fun h => ?_) (fun h => ?_)))
  refine loop_invS (fun i => i ≤ l.length ∧ ∀ p ∈ l.take i, (decide (x = p)) = false) [0, 1, 7, 8] 0 (fun i => [(8, ai i)]) (fun _ => []) (fun i => l.length - i) 0 (by decide) (by decide) ?_
  conv => whnf
  refine ⟨rfl, rfl, by simp, fun i ⟨hi, hp⟩ => ?_⟩
  repeat' (first
        | ((with_reducible refine step ?_); conv => whnf)
        | (with_reducible refine And.intro (fun h => ?_) (fun h => ?_))
        | (have hlt : i < l.length := (by simp_all); refine idx_nat hlt rfl ?_; conv => whnf))
  · rw [idxStr, findIdx_some hlt hp h]
  · exact ⟨i + 1, ⟨hlt, none_take_succ hlt hp h⟩, by omega, by rw [wrap_succ (by omega)]; rfl, rfl⟩
  · rw [idxStr, findIdx_none (by simp at h; omega) hp]
theorem idxStr_any (l : List (List UInt8)) (x : List UInt8) : decide (0 ≤ idxStr l x) = l.any fun y => decide (x = y) := by
  unfold idxStr
  cases hi : l.findIdx? fun y => decide (x = y) with
  | none =>
    rw [List.findIdx?_eq_none_iff] at hi
    symm; rw [show decide (0 ≤ (-1 : Int)) = false from rfl, List.any_eq_false]
    intro y hy
    simpa using hi y hy
  | some i =>
    rw [List.findIdx?_eq_some_iff_getElem] at hi
    obtain ⟨hil, h, _⟩ := hi
    show decide (0 ≤ (i : Int)) = _
    rw [show decide (0 ≤ (i : Int)) = true by simp]
    symm; rw [List.any_eq_true]
    exact ⟨l[i], List.getElem_mem hil, h⟩
theorem containsS_c (l : List (List UInt8)) (x : List UInt8) (hl : l.length < 4611686018427387904) : PureCall Tryd.prog F.slices_Contains_string [asl (l.map eStr), .str x] (.bool (l.any fun y => decide (x = y))) := by
  refine contractS fits K.slices_Contains_string ?_
  repeat' (first
    | ((with_reducible refine step ?_); conv => whnf) | ((with_reducible refine br_dec (fun h => ?_) (fun h => ?_)) <;> try (exfalso; omega)) | ((with_reducible refine br_ndec (fun h => ?_) (fun h => ?_)) <;> try (exfalso; omega)) | (with_reducible refine br_not (fun h => ?_) (fun h => ?_)) | (with_reducible refine And.intro (fun h => ?_) (fun h => ?_))
    | (refine call_pure (indexS_c l x hl) rfl rfl ?_; conv => whnf)
    | fail)
  all_goals (refine congrArg AV.bool ?_; rw [← idxStr_any])
theorem join_sp : ∀ l : List (List UInt8), Lib.join l [32] = joinSp l := by
  intro l
  induction l with
  | nil => rfl
  | cons x l ih =>
    cases l with
    | nil => simp [Lib.join, joinSp]
    | cons y l =>
      show _ = x ++ 32 :: joinSp (y :: l)
      rw [← ih]
      simp [Lib.join, List.intercalate, List.intersperse]
theorem textListP_c (l : List Segment) (hl : l.length ≤ 100000) : PureCall Tryd.prog F.segment_TextList [asl (l.map Segment.enc)] (.str (textList l)) := by
  refine contractS fits K.segment_TextList ?_
  have hlm : (l.map Segment.enc).length = l.length := List.length_map ..
  have hct := containsS_c (l.map segText) [] (by simp; omega)
  have hjn := join_c (l.map segText) [32] (by simp; omega) (by rw [join_sp]; have := joinSp_take (l := l) l.length; rw [List.take_length] at this; omega)
  rw [join_sp] at hjn
  repeat' (first
      | contradiction
      | ((with_reducible refine step ?_); conv => whnf) | ((with_reducible refine br_dec (fun h => ?_) (fun h => ?_)) <;> try (exfalso; omega)) | ((with_reducible refine br_ndec (fun h => ?_) (fun h => ?_)) <;> try (exfalso; omega)) | (with_reducible refine br_not (fun h => ?_) (fun h => ?_)) | (with_reducible refine And.intro (fun h => ?_) (fun h => ?_))
      | fail)
  refine loop_promoteD (k := 3) (esz := 1) rfl (by decide) ?_
  refine loop_invS (fun i => i ≤ l.length) [3, 6, 7, 8] 1 (fun i => [(8, ai i)]) (fun i => [(0, .arr 0 1 none (((l.take i).map segText).map eStr) false)]) (fun i => l.length - i) 0 (by decide) (by decide) ?_
  conv => whnf
  refine ⟨rfl, rfl, Nat.zero_le _, fun i hi => ?_⟩
  have hle : (((l.take i).map segText).map eStr).length = i := by simp; omega
  repeat' (first
      | contradiction
      | ((with_reducible refine step ?_); conv => whnf) | ((with_reducible refine br_dec (fun h => ?_) (fun h => ?_)) <;> try (exfalso; omega)) | ((with_reducible refine br_ndec (fun h => ?_) (fun h => ?_)) <;> try (exfalso; omega)) | (with_reducible refine br_not (fun h => ?_) (fun h => ?_)) | (with_reducible refine And.intro (fun h => ?_) (fun h => ?_))
      | (have hlt : i < l.length := (by omega); refine idx_nat hlt rfl ?_; conv => whnf)
      | (refine call_pure (segTextP_c l[i]) rfl rfl ?_; conv => whnf)
      | (refine And.intro ⟨trivial, rfl, by simp [elemsOk, AV.oneC], by simp [big]; omega⟩ ?_; conv => whnf)
      | (have hie : i = l.length := (by omega); subst hie; rw [List.take_length]; refine call_pure hct rfl rfl ?_; conv => whnf)
      | (refine call_pure hct rfl rfl ?_; conv => whnf)
      | (refine call_pure hjn rfl rfl ?_; conv => whnf)
      | fail)
  · refine ⟨i + 1, hlt, by omega, by rw [wrap_succ (by omega)]; rfl, ?_⟩
    rw [List.take_succ_eq_append_getElem hlt, List.map_append, List.map_append]; rfl
  · rw [textList, if_neg]
    simp only [List.any_map, List.any_eq_true, List.all_eq_true, decide_eq_true_eq, Function.comp_apply] at h ⊢
    obtain ⟨x, hx, h2⟩ := h
    exact fun q => q x hx h2.symm
  · rw [textList, if_pos]
    simp only [List.any_map, List.any_eq_false, List.all_eq_true, decide_eq_true_eq, Function.comp_apply] at h ⊢
    exact fun x hx e => h x hx e.symm
end Go.Proofs.YtakkfpiibeokiaaDoor.Vm
/- Contracts: strconv.Atoi, strings.IndexByte; numbers and their texts. -/
set_option linter.all false
namespace Go.Proofs.YtakkfpiibeokiaaDoor.Vm
open Go Go.RowKit
set_option maxRecDepth 100000
set_option maxHeartbeats 4000000
theorem cell_of_tab {st : Nat → Nat → Prop} {w : World} {n : String} {q : Array Value → Prop} {g : Nat} (h : Tabs.ok st w) (hm : (n, q) ∈ tabL) (hg : Tryd.prog.globalNamed n = some g) : ∃ cs, q cs ∧ ∀ o, w.cell? ⟨g, o, none⟩ = cs[o]? := by
  obtain ⟨g', cs, k1, k2, k3, k4, k5⟩ := h n q hm
  rw [hg] at k1; cases k1
  exact ⟨cs, k5, fun o => World.var?_cell hg k3 o⟩
/-- what strconv.Atoi gives -/
def atoiV (l : List UInt8) : Int := match Lib.atoiAll l with
  | .ok n => n
  | .syntax => 0
  | .range => Lib.atoiSat l
theorem atoiD_c (l : List UInt8) (hl : l.length ≤ 100000000) : PureCall Tryd.prog F.strconv_Atoi [.str l] (.tuple [ai (atoiV l), .dead]) := by
  refine pure_of_calls (known_of K.strconv_Atoi) fun st w vals hlt htab hl2 hrel => ?_
  obtain ⟨a, rfl⟩ := vals1 hl2
  have ha := rel_str (hrel 0 _ a rfl rfl)
  subst ha
  have hbl : (ByteArray.mk l.toArray).data.toList = l := bytes_list l
  have hsz : (ByteArray.mk l.toArray).size = l.length := by simp [ByteArray.size]
  have htup : ∀ (n : Int) (u : Value) (w' : World), Rel (stG st) w' (.tuple [ai n, .dead]) (.tuple #[.int .i64 n, u]) := fun n u w' => .tuple rfl fun i x v hx hv => by
    match i with
    | 0 => cases hx; cases hv; exact .int _ _
    | 1 => cases hx; exact .dead _
    | i + 2 => simp at hx
  cases hA : Lib.atoiAll l with
  | ok n =>
    refine (Tryd.strconv_Atoi_ok ⟨l.toArray⟩ (by rw [hsz]; omega) n (by rw [hbl]; exact hA) w).mono fun e w' ⟨he, hw⟩ => ⟨_, he, ?_, ?_⟩
    · rcases hw with rfl | ⟨t, rfl⟩
      · exact Below.refl _ _
      · exact Go.Joins.below_bytesWorld _ _ _ _ (Nat.le_refl _)
    · rw [atoiV, hA]; exact htup _ _ _
  | «syntax» =>
    obtain ⟨cs, ⟨te, pe, rfl⟩, hc⟩ := cell_of_tab (g := G.strconv_ErrSyntax) htab memSyn (by kernel_rfl)
    refine (Tryd.strconv_Atoi_syntax ⟨l.toArray⟩ (by rw [hsz]; omega) (by rw [hbl]; exact hA) _ w (hc 0) (.inr ⟨te, pe, rfl⟩)).mono fun e w' ⟨N, he, _, _, hw⟩ => ⟨_, he, hw, ?_⟩
    rw [atoiV, hA]; exact htup _ _ _
  | range =>
    obtain ⟨cs, ⟨te, pe, rfl⟩, hc⟩ := cell_of_tab (g := G.strconv_ErrRange) htab memRng (by kernel_rfl)
    refine (Tryd.strconv_Atoi_range ⟨l.toArray⟩ (by rw [hsz]; omega) (by rw [hbl]; exact hA) _ w (hc 0) (.inr ⟨te, pe, rfl⟩)).mono fun e w' ⟨N, he, _, _, hw⟩ => ⟨_, he, hw, ?_⟩
    rw [atoiV, hA]
    rw [hbl]
    exact htup _ _ _
theorem indexByte_c (l : List UInt8) (c : UInt8) : PureCall Tryd.prog F.strings_IndexByte [.str l, .int .u8 c.toNat] (ai (Lib.indexByte l c)) := by
  refine pure_of_calls (known_of K.strings_IndexByte) fun st w vals hlt htab hl2 hrel => ?_
  obtain ⟨a, b, rfl⟩ := vals2 hl2
  have ha := rel_str (hrel 0 _ a rfl rfl)
  have hb := rel_int (hrel 1 _ b rfl rfl)
  subst ha; subst hb
  refine (Tryd.strings_IndexByte ⟨l.toArray⟩ c.toNat w).mono fun e w' ⟨he, hw⟩ => ?_
  subst hw
  refine ⟨_, he, Below.refl _ _, ?_⟩
  rw [bytes_list]
  have : ((c.toNat : Int)).toNat.toUInt8 = c := by simp
  rw [this]; exact .int _ _

theorem digitVal_dig {m : Nat} (h : m < 10) : Lib.digitVal (dig m) = some m := by
  rcases m with _ | _ | _ | _ | _ | _ | _ | _ | _ | _ | m <;> first | rfl | omega
theorem decFrom_snoc (b : UInt8) : ∀ (l : List UInt8) (acc : Nat), Lib.decFrom acc (l ++ [b]) = (Lib.decFrom acc l).bind fun n => (Lib.digitVal b).map fun d => n * 10 + d := by
  intro l
  induction l with
  | nil => intro acc; rw [List.nil_append]; unfold Lib.decFrom Lib.decFrom; cases Lib.digitVal b <;> rfl
  | cons c l ih =>
    intro acc
    rw [List.cons_append, Lib.decFrom, Lib.decFrom]
    cases Lib.digitVal c with
    | none => rfl
    | some d => exact ih _
theorem decFrom_digF : ∀ (k n : Nat), 1 ≤ k → n < 10 ^ k → Lib.decFrom 0 (digF k n) = some n := by
  intro k
  induction k with
  | zero => intro n h; omega
  | succ k ih =>
    intro n _ hn
    rw [digF]
    split
    · rename_i h
      have hd := digitVal_dig (m := n) h
      rw [show ([dig n] : List UInt8) = [] ++ [dig n] from rfl, decFrom_snoc, hd]
      show some (0 * 10 + n) = _
      rw [Nat.zero_mul, Nat.zero_add]
    · rename_i h
      have hk : 1 ≤ k := by
        rcases Nat.eq_zero_or_pos k with rfl | h'
        · simp at hn; omega
        · exact h'
      rw [decFrom_snoc, ih (n / 10) hk (by rw [Nat.pow_succ] at hn; omega), digitVal_dig (by omega)]
      show some (n / 10 * 10 + n % 10) = _
      congr 1; omega
theorem digF_ne (k n : Nat) : digF (k + 1) n ≠ [] := by
  rw [digF]; split <;> simp
theorem number_pos {n : Int} (h0 : 0 ≤ n) : number n = digF 20 n.toNat := by rw [number, if_neg (by omega)]; rfl
theorem number_len9 {n : Int} (h0 : 0 ≤ n) (h1 : n ≤ 999999999) : (number n).length ≤ 9 := by
  rw [← num_number (by unfold i64; omega)]
  unfold num Lib.itoa
  rw [if_neg (by omega)]
  exact decDigits_len 8 _ (by omega)
theorem atoi_of_dec {l : List UInt8} {n : Nat} (hne : l ≠ []) (h : Lib.decFrom 0 l = some n) : Lib.atoi l = some (n : Int) := by
  cases l with
  | nil => exact absurd rfl hne
  | cons b r =>
    have hb : ∃ d, Lib.digitVal b = some d := by
      rw [Lib.decFrom] at h
      cases hd : Lib.digitVal b with
      | none => rw [hd] at h; exact nomatch h
      | some d => exact ⟨d, rfl⟩
    obtain ⟨d, hd⟩ := hb
    have hr : 48 ≤ b.toNat := by
      unfold Lib.digitVal at hd
      split at hd
      · rename_i h'; exact h'.1
      · exact nomatch hd
    have h1 : (b == 45) = false := by
      rw [beq_eq_false_iff_ne]; intro e; subst e; exact absurd hr (by decide)
    have h2 : (b == 43) = false := by
      rw [beq_eq_false_iff_ne]; intro e; subst e; exact absurd hr (by decide)
    simp only [Lib.atoi, h1, h2, Bool.false_eq_true, if_false]
    rw [Lib.decNat, if_neg (by simp), h]; rfl
theorem atoiV_number {n : Int} (h0 : 0 ≤ n) (h1 : n ≤ 999999999) : atoiV (number n) = n := by
  have hl := number_len9 h0 h1
  have hd : Lib.decFrom 0 (number n) = some n.toNat := by rw [number_pos h0]; exact decFrom_digF 20 _ (by decide) (by omega)
  have ha := atoi_of_dec (by rw [number_pos h0]; exact digF_ne 19 _) hd
  rw [atoiV, Lib.atoiAll_short _ (by omega), ha]
  show (n.toNat : Int) = n
  omega
/-- what ref09.Value computes -/
def valF (v : Int) (l : List UInt8) : Int := l.foldl (fun v (c : UInt8) => 10 * v + (c.toNat : Int) - 48) v
theorem digit_toNat {b : UInt8} {d : Nat} (h : Lib.digitVal b = some d) : (b.toNat : Int) - 48 = d := by
  unfold Lib.digitVal at h
  split at h
  · cases h; omega
  · exact nomatch h
theorem valF_dec : ∀ (l : List UInt8) (acc n : Nat), Lib.decFrom acc l = some n → valF acc l = n := by
  intro l
  induction l with
  | nil => intro acc n h; cases h; rfl
  | cons b r ih =>
    intro acc n h
    rw [Lib.decFrom] at h
    cases hd : Lib.digitVal b with
    | none => rw [hd] at h; exact nomatch h
    | some d =>
      rw [hd] at h
      have := ih _ _ h
      rw [← this]
      show valF (10 * (acc : Int) + (b.toNat : Int) - 48) r = _
      have hb := digit_toNat hd
      congr 1
      rw [Int.natCast_add, Int.natCast_mul]; omega
theorem valueF_number {n : Int} (h0 : 0 ≤ n) (h1 : n ≤ 999999999) : valueF (number n) = n := by
  have hl := number_len9 h0 h1
  have hd : Lib.decFrom 0 (number n) = some n.toNat := by rw [number_pos h0]; exact decFrom_digF 20 _ (by decide) (by omega)
  have := valF_dec _ 0 _ hd
  rw [valueF, List.take_of_length_le hl]
  show valF 0 (number n) = n
  rw [show (0 : Int) = ((0 : Nat) : Int) from rfl, this]; omega
end Go.Proofs.YtakkfpiibeokiaaDoor.Vm
/- The self-check of the set 18; SegmentValid, SegmentEnds. -/
set_option linter.all false
namespace Go.Proofs.YtakkfpiibeokiaaDoor.Vm
open Go
set_option maxRecDepth 100000
set_option maxHeartbeats 4000000
theorem large18_c (t : Topology) : PureCall Tryd.prog F.law18_large [.agg t.enc] (.bool (decide (200 < t.overload.length) || decide (300 < t.links.length))) := by
  refine contractS fits K.law18_large ?_
  have hlm : (t.links.map Link.enc).length = t.links.length := List.length_map ..
  have hom : (t.overload.map eBool).length = t.overload.length := List.length_map ..
  repeat' (first
      | ((with_reducible refine step ?_); conv => whnf) | ((with_reducible refine br_dec (fun h => ?_) (fun h => ?_)) <;> try (exfalso; omega)) | ((with_reducible refine br_ndec (fun h => ?_) (fun h => ?_)) <;> try (exfalso; omega)) | (with_reducible refine br_not (fun h => ?_) (fun h => ?_)) | (with_reducible refine And.intro (fun h => ?_) (fun h => ?_))
      | fail)
  all_goals refine congrArg AV.bool ?_
  all_goals grind
def ex18 : Topology := ⟨2, [], [⟨0, 1, 1, 1, 0, 1, 0⟩]⟩
theorem awake18_c : PureCall Tryd.prog F.law18_awake [] (.bool true) := by
  refine contractS fits K.law18_awake ?_
  have e1 := end_c ex18 ⟨2, 1⟩ 1
  have e2 := end_c ex18 ⟨2, 1⟩ 0
  rw [show endR ex18 ⟨2, 1⟩ 1 = (0, 0) by decide +kernel] at e1
  rw [show endR ex18 ⟨2, 1⟩ 0 = (0, 4) by decide +kernel] at e2
  have tx := textListP_c [⟨1, 3⟩, ⟨2, 7⟩, ⟨3, 2⟩] (by decide)
  rw [show textList [⟨1, 3⟩, ⟨2, 7⟩, ⟨3, 2⟩] = [110, 51, 32, 97, 55, 32, 103, 50] by decide +kernel] at tx
  repeat' (first
      | contradiction
      | (exfalso; revert h; decide)
      | ((with_reducible refine step ?_); conv => whnf) | ((with_reducible refine br_dec (fun h => ?_) (fun h => ?_)) <;> try (exfalso; omega)) | ((with_reducible refine br_ndec (fun h => ?_) (fun h => ?_)) <;> try (exfalso; omega)) | (with_reducible refine br_not (fun h => ?_) (fun h => ?_)) | (with_reducible refine And.intro (fun h => ?_) (fun h => ?_))
      | (refine call_pure e1 rfl rfl ?_; conv => whnf)
      | (refine call_pure e2 rfl rfl ?_; conv => whnf)
      | (refine call_pure tx rfl rfl ?_; conv => whnf)
      | fail)
  all_goals first | rfl
theorem sSegValid_c (t : Topology) (s : Segment) : PureCall Tryd.prog F.law18_SegmentValid [.agg t.enc, .agg s.enc] (.bool true) := by
  refine contractS fits K.law18_SegmentValid ?_
  have c1 := segValid_c t s
  have c2 := segValid18_c t s
  generalize s.valid t = v at c1 c2
  repeat' (first
      | contradiction
      | ((with_reducible refine step ?_); conv => whnf) | ((with_reducible refine br_dec (fun h => ?_) (fun h => ?_)) <;> try (exfalso; omega)) | ((with_reducible refine br_ndec (fun h => ?_) (fun h => ?_)) <;> try (exfalso; omega)) | (with_reducible refine br_not (fun h => ?_) (fun h => ?_)) | (with_reducible refine And.intro (fun h => ?_) (fun h => ?_))
      | (refine call_pure awake18_c rfl rfl ?_; conv => whnf)
      | (refine call_pure (large18_c t) rfl rfl ?_; conv => whnf)
      | (refine call_pure c1 rfl rfl ?_; conv => whnf)
      | (refine call_pure c2 rfl rfl ?_; conv => whnf)
      | fail)
  all_goals first | rfl | (refine congrArg AV.bool ?_; simp; done)
theorem endsL_len : ∀ (t : Topology) (l : List Segment) (n : Int), (endsL t n l).1.length ≤ l.length := by
  intro t l
  induction l with
  | nil => intro n; exact Nat.le_refl _
  | cons s l ih =>
    intro n
    rw [endsL]
    split
    · exact Nat.zero_le _
    · split
      · exact Nat.zero_le _
      · exact Nat.succ_le_succ (ih _)
theorem endsR_len (t : Topology) (l : List Segment) (n : Int) : (endsR t l n).1.length ≤ l.length := by
  unfold endsR; split
  · exact Nat.zero_le _
  · split
    · exact Nat.zero_le _
    · exact endsL_len t l n
theorem sSegEnds_c (t : Topology) (l : List Segment) (n : Int) (hl : l.length ≤ 140737488355328) : PureCall Tryd.prog F.law18_SegmentEnds [.agg t.enc, asl (l.map Segment.enc), ai n] (.bool true) := by
  have hlm : (l.map Segment.enc).length = l.length := List.length_map ..
  by_cases hb : l.length ≤ 100
  · have c1 := sends_c t l n (by omega)
    have c2 := sends18_c t l n (by omega)
    have hle := endsR_len t l n
    have c3 := sameInts_c (endsR t l n).1 (endsR t l n).1 (by omega)
    rw [decide_eq_true rfl] at c3
    cases l with
    | nil =>
      refine contractS fits K.law18_SegmentEnds ?_
      repeat' (first
        | contradiction
        | ((with_reducible refine step ?_); conv => whnf) | ((with_reducible refine br_dec (fun h => ?_) (fun h => ?_)) <;> try (exfalso; omega)) | ((with_reducible refine br_ndec (fun h => ?_) (fun h => ?_)) <;> try (exfalso; omega)) | (with_reducible refine br_not (fun h => ?_) (fun h => ?_)) | (with_reducible refine And.intro (fun h => ?_) (fun h => ?_))
        | (refine call_pure awake18_c rfl rfl ?_; conv => whnf)
        | (refine call_pure (large18_c t) rfl rfl ?_; conv => whnf)
        | (refine call_pure c1 rfl rfl ?_; conv => whnf)
        | (refine call_pure c2 rfl rfl ?_; conv => whnf)
        | (refine call_pure c3 rfl rfl ?_; conv => whnf)
        | fail)
      all_goals first | rfl | (exfalso; simp_all; done) | (refine congrArg AV.bool ?_; simp; done)
    | cons s l =>
      have c4 := end_c t s n
      have c5 := end18_c t s n
      generalize endR t s n = r at c4 c5
      generalize endsR t (s :: l) n = q at c1 c2 c3 hle
      refine contractS fits K.law18_SegmentEnds ?_
      repeat' (first
        | contradiction
        | ((with_reducible refine step ?_); conv => whnf) | ((with_reducible refine br_dec (fun h => ?_) (fun h => ?_)) <;> try (exfalso; omega)) | ((with_reducible refine br_ndec (fun h => ?_) (fun h => ?_)) <;> try (exfalso; omega)) | (with_reducible refine br_not (fun h => ?_) (fun h => ?_)) | (with_reducible refine And.intro (fun h => ?_) (fun h => ?_))
        | (refine call_pure awake18_c rfl rfl ?_; conv => whnf)
        | (refine call_pure (large18_c t) rfl rfl ?_; conv => whnf)
        | (refine call_pure c1 rfl rfl ?_; conv => whnf)
        | (refine call_pure c2 rfl rfl ?_; conv => whnf)
        | (refine call_pure c3 rfl rfl ?_; conv => whnf)
        | (refine call_pure c4 rfl rfl ?_; conv => whnf)
        | (refine call_pure c5 rfl rfl ?_; conv => whnf)
        | (refine idx_nat (xs := s :: l) (i := 0) (Nat.succ_pos _) rfl ?_; conv => whnf)
        | fail)
      all_goals first | rfl | (exfalso; simp_all; done) | (refine congrArg AV.bool ?_; simp; done)
  · refine contractS fits K.law18_SegmentEnds ?_
    repeat' (first
        | contradiction
        | ((with_reducible refine step ?_); conv => whnf) | ((with_reducible refine br_dec (fun h => ?_) (fun h => ?_)) <;> try (exfalso; omega)) | ((with_reducible refine br_ndec (fun h => ?_) (fun h => ?_)) <;> try (exfalso; omega)) | (with_reducible refine br_not (fun h => ?_) (fun h => ?_)) | (with_reducible refine And.intro (fun h => ?_) (fun h => ?_))
        | (refine call_pure awake18_c rfl rfl ?_; conv => whnf)
        | (refine call_pure (large18_c t) rfl rfl ?_; conv => whnf)
        | fail)
    all_goals rfl
end Go.Proofs.YtakkfpiibeokiaaDoor.Vm
/- SegmentText, SegmentParse. -/
set_option linter.all false
namespace Go.Proofs.YtakkfpiibeokiaaDoor.Vm
open Go
set_option maxRecDepth 100000
set_option maxHeartbeats 4000000
def lettersL : List UInt8 := [63, 110, 97, 103, 98]
def progP (l : List UInt8) : Segment × Int := match l with
  | c :: d :: r => if segText ⟨Lib.indexByte lettersL c, atoiV (d :: r)⟩ = c :: d :: r then (⟨Lib.indexByte lettersL c, atoiV (d :: r)⟩, 0) else (⟨0, 0⟩, 3)
  | _ => (⟨0, 0⟩, 3)
theorem segText_inv {x : Segment} {c : UInt8} {r : List UInt8} (h : segText x = c :: r) : (x.kind = 1 ∨ x.kind = 2 ∨ x.kind = 3 ∨ x.kind = 4) ∧ 0 ≤ x.num ∧ x.num ≤ 999999999 ∧ c = letter x.kind ∧ r = number x.num := by
  unfold segText at h
  split at h
  · rename_i hk
    injection h with h1 h2
    exact ⟨by omega, hk.2.2.1, hk.2.2.2, h1.symm, h2.symm⟩
  · exact nomatch h
theorem idx_letter {k : Int} (h : k = 1 ∨ k = 2 ∨ k = 3 ∨ k = 4) : Lib.indexByte lettersL (letter k) = k := by
  rcases h with rfl | rfl | rfl | rfl <;> decide +kernel
theorem segText_ok {k n : Int} (h : k = 1 ∨ k = 2 ∨ k = 3 ∨ k = 4) (h0 : 0 ≤ n) (h1 : n ≤ 999999999) : segText ⟨k, n⟩ = letter k :: number n := by
  rw [segText, if_pos ⟨by show 1 ≤ k; omega, by show k ≤ 4; omega, h0, h1⟩]
theorem letter_inj {j k : Int} (hj : j = 1 ∨ j = 2 ∨ j = 3 ∨ j = 4) (hk : k = 1 ∨ k = 2 ∨ k = 3 ∨ k = 4) (h : letter j = letter k) : j = k := by
  rw [← idx_letter hj, ← idx_letter hk, h]
/-- a text that is a segment's -/
theorem segParse_of {x : Segment} {c : UInt8} {r : List UInt8} (h : segText x = c :: r) : segParse (c :: r) = (x, 0) := by
  obtain ⟨hk, h0, h1, rfl, rfl⟩ := segText_inv h
  obtain ⟨k, n⟩ := x
  dsimp only at hk h0 h1 h ⊢
  have hv : valueF ((letter k :: number n).drop 1) = n := valueF_number h0 h1
  have hl : ¬ (letter k :: number n).length ≤ 1 := by
    have : number n ≠ [] := by rw [number_pos h0]; exact digF_ne 19 _
    have := List.length_pos_iff.2 this
    simp; omega
  rw [segParse, if_neg hl, hv]
  have hne : ∀ j, (j = 1 ∨ j = 2 ∨ j = 3 ∨ j = 4) → j ≠ k → ¬ segText ⟨j, n⟩ = letter k :: number n := fun j hj hjk e => by
    rw [segText_ok hj h0 h1] at e
    injection e with e1
    exact hjk (letter_inj hj hk e1)
  rcases hk with rfl | rfl | rfl | rfl
  · rw [if_pos h]
  · rw [if_neg (hne 1 (by omega) (by omega)), if_pos h]
  · rw [if_neg (hne 1 (by omega) (by omega)), if_neg (hne 2 (by omega) (by omega)), if_pos h]
  · rw [if_neg (hne 1 (by omega) (by omega)), if_neg (hne 2 (by omega) (by omega)), if_neg (hne 3 (by omega) (by omega)), if_pos h]
theorem segParse_ok {l : List UInt8} (h : (segParse l).2 = 0) : segText (segParse l).1 = l := by
  unfold segParse at h ⊢
  split at h
  · exact absurd h (by decide)
  · rename_i h1
    rw [if_neg h1]
    split at h
    · rename_i h2; rw [if_pos h2]; exact h2
    · rename_i h2
      rw [if_neg h2]
      split at h
      · rename_i h3; rw [if_pos h3]; exact h3
      · rename_i h3
        rw [if_neg h3]
        split at h
        · rename_i h4; rw [if_pos h4]; exact h4
        · rename_i h4
          rw [if_neg h4]
          split at h
          · rename_i h5; rw [if_pos h5]; exact h5
          · exact absurd h (by decide)
theorem segParse_two (l : List UInt8) : (segParse l).2 = 0 ∨ segParse l = (⟨0, 0⟩, 3) := by
  unfold segParse
  repeat' split
  all_goals first | exact .inl rfl | exact .inr rfl
theorem progP_eq (l : List UInt8) : progP l = segParse l := by
  cases l with
  | nil => rfl
  | cons c r =>
    cases r with
    | nil => rw [segParse, if_pos (by simp)]; rfl
    | cons d r =>
      rw [progP]
      split
      · rename_i h; rw [segParse_of h]
      · rename_i h
        rcases segParse_two (c :: d :: r) with h2 | h2
        · exfalso
          have h3 := segParse_ok h2
          generalize (segParse (c :: d :: r)).1 = x at h3
          obtain ⟨hk, h0, h1, e1, e2⟩ := segText_inv h3
          refine h ?_
          have q1 : Lib.indexByte lettersL c = x.kind := by rw [e1, idx_letter hk]
          have q2 : atoiV (d :: r) = x.num := by rw [e2, atoiV_number h0 h1]
          rw [q1, q2]
          exact h3
        · rw [h2]
theorem segParseP_c (l : List UInt8) (hl : l.length ≤ 100000000) : PureCall Tryd.prog F.segment_Parse [.str l] (.tuple [.agg (segParse l).1.enc, ai (segParse l).2]) := by
  rw [← progP_eq]
  match l, hl with
  | [], _ =>
    refine contractS fits K.segment_Parse ?_
    repeat' (first
      | contradiction
      | ((with_reducible refine step ?_); conv => whnf) | ((with_reducible refine br_dec (fun h => ?_) (fun h => ?_)) <;> try (exfalso; omega)) | ((with_reducible refine br_ndec (fun h => ?_) (fun h => ?_)) <;> try (exfalso; omega)) | (with_reducible refine br_not (fun h => ?_) (fun h => ?_)) | (with_reducible refine And.intro (fun h => ?_) (fun h => ?_))
      | fail)
    all_goals rfl
  | [c], _ =>
    refine contractS fits K.segment_Parse ?_
    repeat' (first
      | contradiction
      | ((with_reducible refine step ?_); conv => whnf) | ((with_reducible refine br_dec (fun h => ?_) (fun h => ?_)) <;> try (exfalso; omega)) | ((with_reducible refine br_ndec (fun h => ?_) (fun h => ?_)) <;> try (exfalso; omega)) | (with_reducible refine br_not (fun h => ?_) (fun h => ?_)) | (with_reducible refine And.intro (fun h => ?_) (fun h => ?_))
      | fail)
    all_goals first | rfl | (exfalso; simp_all; done)
  | c :: d :: r, hl =>
    have ha := atoiD_c (d :: r) (by simp at hl ⊢; omega)
    have hb := indexByte_c lettersL c
    have ht := segTextP_c ⟨Lib.indexByte lettersL c, atoiV (d :: r)⟩
    have e : progP (c :: d :: r) = if segText ⟨Lib.indexByte lettersL c, atoiV (d :: r)⟩ = c :: d :: r then (⟨Lib.indexByte lettersL c, atoiV (d :: r)⟩, 0) else (⟨0, 0⟩, 3) := rfl
    rw [e]
    refine contractS fits K.segment_Parse ?_
    repeat' (first
      | contradiction
      | ((with_reducible refine step ?_); conv => whnf) | ((with_reducible refine br_dec (fun h => ?_) (fun h => ?_)) <;> try (exfalso; omega)) | ((with_reducible refine br_ndec (fun h => ?_) (fun h => ?_)) <;> try (exfalso; omega)) | (with_reducible refine br_not (fun h => ?_) (fun h => ?_)) | (with_reducible refine And.intro (fun h => ?_) (fun h => ?_))
      | (refine call_pure ha rfl rfl ?_; conv => whnf)
      | (refine call_pure hb rfl rfl ?_; conv => whnf)
      | (refine call_pure ht rfl rfl ?_; conv => whnf)
      | (refine And.intro (by simp; omega) ?_; conv => whnf)
      | (refine And.intro (Int.le_refl _) ⟨c, rfl, ?_⟩; conv => whnf)
      | fail)
    all_goals first | (exfalso; simp_all; omega) | (rw [if_pos (by assumption)]; rfl) | (rw [if_neg (by assumption)]; rfl)
theorem sSegText_c (s : Segment) : PureCall Tryd.prog F.law18_SegmentText [.agg s.enc] (.bool true) := by
  have hlen := segText_len s
  have c1 := segTextP_c s
  have c2 := segText_c s
  have c3 := segParseP_c (segText s) (by omega)
  cases hx : segText s with
  | nil =>
    rw [hx] at c1 c2 c3
    rw [show segParse [] = (⟨0, 0⟩, 3) from rfl] at c3
    refine contractS fits K.law18_SegmentText ?_
    repeat' (first
      | contradiction
      | ((with_reducible refine step ?_); conv => whnf) | ((with_reducible refine br_dec (fun h => ?_) (fun h => ?_)) <;> try (exfalso; omega)) | ((with_reducible refine br_ndec (fun h => ?_) (fun h => ?_)) <;> try (exfalso; omega)) | (with_reducible refine br_not (fun h => ?_) (fun h => ?_)) | (with_reducible refine And.intro (fun h => ?_) (fun h => ?_))
      | (refine call_pure awake18_c rfl rfl ?_; conv => whnf)
      | (refine call_pure c1 rfl rfl ?_; conv => whnf)
      | (refine call_pure c2 rfl rfl ?_; conv => whnf)
      | (refine call_pure c3 rfl rfl ?_; conv => whnf)
      | fail)
    all_goals first | rfl | (exfalso; simp_all; done)
  | cons c r =>
    have hp := segParse_of hx
    rw [hx] at c1 c2 c3
    rw [hp] at c3
    refine contractS fits K.law18_SegmentText ?_
    repeat' (first
      | contradiction
      | ((with_reducible refine step ?_); conv => whnf) | ((with_reducible refine br_dec (fun h => ?_) (fun h => ?_)) <;> try (exfalso; omega)) | ((with_reducible refine br_ndec (fun h => ?_) (fun h => ?_)) <;> try (exfalso; omega)) | (with_reducible refine br_not (fun h => ?_) (fun h => ?_)) | (with_reducible refine And.intro (fun h => ?_) (fun h => ?_))
      | (refine call_pure awake18_c rfl rfl ?_; conv => whnf)
      | (refine call_pure c1 rfl rfl ?_; conv => whnf)
      | (refine call_pure c2 rfl rfl ?_; conv => whnf)
      | (refine call_pure c3 rfl rfl ?_; conv => whnf)
      | fail)
    all_goals first | rfl | (exfalso; simp_all; done) | (refine congrArg AV.bool ?_; simp; done)
theorem sSegParse_c (l : List UInt8) (hl : l.length ≤ 140737488355328) : PureCall Tryd.prog F.law18_SegmentParse [.str l] (.bool true) := by
  by_cases hb : l.length ≤ 50
  · have c1 := segParseP_c l (by omega)
    have c2 := segParse_c l (by omega)
    have c3 := segTextP_c (segParse l).1
    have hok := @segParse_ok l
    generalize segParse l = q at c1 c2 c3 hok
    refine contractS fits K.law18_SegmentParse ?_
    repeat' (first
      | contradiction
      | ((with_reducible refine step ?_); conv => whnf) | ((with_reducible refine br_dec (fun h => ?_) (fun h => ?_)) <;> try (exfalso; omega)) | ((with_reducible refine br_ndec (fun h => ?_) (fun h => ?_)) <;> try (exfalso; omega)) | (with_reducible refine br_not (fun h => ?_) (fun h => ?_)) | (with_reducible refine And.intro (fun h => ?_) (fun h => ?_))
      | (refine call_pure awake18_c rfl rfl ?_; conv => whnf)
      | (refine call_pure c1 rfl rfl ?_; conv => whnf)
      | (refine call_pure c2 rfl rfl ?_; conv => whnf)
      | (refine call_pure c3 rfl rfl ?_; conv => whnf)
      | fail)
    all_goals first | rfl | (exfalso; simp_all; done) | (refine congrArg AV.bool ?_; simp_all; done)
  · refine contractS fits K.law18_SegmentParse ?_
    repeat' (first
      | contradiction
      | ((with_reducible refine step ?_); conv => whnf) | ((with_reducible refine br_dec (fun h => ?_) (fun h => ?_)) <;> try (exfalso; omega)) | ((with_reducible refine br_ndec (fun h => ?_) (fun h => ?_)) <;> try (exfalso; omega)) | (with_reducible refine br_not (fun h => ?_) (fun h => ?_)) | (with_reducible refine And.intro (fun h => ?_) (fun h => ?_))
      | (refine call_pure awake18_c rfl rfl ?_; conv => whnf)
      | fail)
    all_goals first | rfl | (exfalso; omega)
end Go.Proofs.YtakkfpiibeokiaaDoor.Vm
/- Contracts: strings.Split at one byte; lists of segments. -/
set_option linter.all false
namespace Go.Proofs.YtakkfpiibeokiaaDoor.Vm
open Go Go.RowKit
set_option maxRecDepth 100000
set_option maxHeartbeats 4000000
/-- the parts of a text between its bytes e -/
def parts (e : UInt8) : List UInt8 → List (List UInt8)
  | [] => [[]]
  | c :: l => if c = e then [] :: parts e l else match parts e l with
    | [] => [[c]]
    | x :: r => (c :: x) :: r
theorem parts_ne (e : UInt8) (l : List UInt8) : parts e l ≠ [] := by
  cases l with
  | nil => simp [parts]
  | cons c l => unfold parts; split
                · simp
                · split <;> simp
theorem parts_none {e : UInt8} : ∀ {l : List UInt8}, (∀ c ∈ l, c ≠ e) → parts e l = [l] := by
  intro l
  induction l with
  | nil => intro _; rfl
  | cons c l ih =>
    intro h
    rw [parts, if_neg (h c (List.mem_cons_self ..)), ih fun x hx => h x (List.mem_cons_of_mem _ hx)]
theorem parts_hit {e : UInt8} (post : List UInt8) : ∀ {pre : List UInt8}, (∀ c ∈ pre, c ≠ e) → parts e (pre ++ e :: post) = pre :: parts e post := by
  intro pre
  induction pre with
  | nil => intro _; rw [List.nil_append, parts, if_pos rfl]
  | cons c l ih =>
    intro h
    rw [List.cons_append, parts, if_neg (h c (List.mem_cons_self ..)), ih fun x hx => h x (List.mem_cons_of_mem _ hx)]
theorem split_parts (e : UInt8) : ∀ (n : Nat) (l : List UInt8), l.length ≤ n → ∀ fuel, l.length < fuel → Lib.splitK [e] 0 (Lib.countFrom [e] fuel l) l = parts e l := by
  intro n
  induction n with
  | zero =>
    intro l hl fuel hf
    have : l = [] := List.eq_nil_of_length_eq_zero (by omega)
    subst this
    obtain ⟨f, rfl⟩ : ∃ f, fuel = f + 1 := ⟨fuel - 1, by omega⟩
    rfl
  | succ n ih =>
    intro l hl fuel hf
    obtain ⟨f, rfl⟩ : ∃ f, fuel = f + 1 := ⟨fuel - 1, by omega⟩
    have hix := Lib.index_one l e
    rw [Lib.countFrom]
    by_cases h : Lib.indexByte l e = -1
    · rw [hix, h, if_pos (by decide)]
      rw [Lib.splitK, parts_none]
      intro c hc
      obtain ⟨k, hk⟩ := List.getElem?_of_mem hc
      intro e1; subst e1
      exact Lib.indexByte_none h k hk
    · have hge := Lib.indexByte_ge l e
      obtain ⟨o, ho⟩ : ∃ o : Nat, Lib.indexByte l e = o := ⟨(Lib.indexByte l e).toNat, by omega⟩
      obtain ⟨h1, h2⟩ := Lib.indexByte_some ho
      obtain ⟨hlt, h1⟩ := List.getElem?_eq_some_iff.1 h1
      rw [hix, ho, if_neg (by simp)]
      have hd : l = l.take o ++ e :: l.drop (o + 1) := by rw [← h1, List.getElem_cons_drop_succ_eq_drop, List.take_append_drop]
      rw [Nat.add_comm 1, Lib.splitK, hix, ho, if_neg (by simp)]
      have e1 : (o : Int).toNat = o := by omega
      rw [e1, Nat.add_zero]
      show l.take o :: Lib.splitK [e] 0 (Lib.countFrom [e] f (l.drop (o + 1))) (l.drop (o + 1)) = _
      rw [ih (l.drop (o + 1)) (by rw [List.length_drop]; omega) f (by rw [List.length_drop]; omega)]
      conv => rhs; rw [hd]
      rw [parts_hit]
      intro c hc
      obtain ⟨k, hk⟩ := List.getElem?_of_mem hc
      intro e2; subst e2
      rw [List.getElem?_take] at hk
      split at hk
      · exact h2 k (by assumption) hk
      · exact nomatch hk
theorem parts_count (e : UInt8) (l : List UInt8) : (parts e l).length ≤ l.length + 1 := by
  induction l with
  | nil => exact Nat.le_refl _
  | cons c l ih =>
    unfold parts
    split
    · simp; omega
    · split
      · simp
      · rename_i x r hx; rw [hx] at ih; simp at ih ⊢; omega
/-- strings that were made -/
theorem strs_new {w w' : World} {xs : List (List UInt8)} {t : TypeId} {p : Nat × Nat} {b : Nat} (h : w'.heap[b]? = some (.cells (xs.map fun l => Value.string ⟨l.toArray⟩).toArray t p)) (hb : w.heap.size ≤ b) :
    Rel (stG fun b _ => w.heap.size ≤ b ∧ b < w'.heap.size) w' (.sl none false (xs.map eStr)) (.slice (some ⟨b, 0, none⟩) xs.length xs.length) := by
  have hlt : b < w'.heap.size := by
    rcases Nat.lt_or_ge b w'.heap.size with h' | h'
    · exact h'
    · rw [Array.getElem?_eq_none h'] at h; exact nomatch h
  have hl : (xs.map eStr).length = xs.length := List.length_map ..
  rw [← hl]
  refine .sl (fun i _ => .string ⟨(xs.getD i []).toArray⟩) (by simp) (Nat.le_refl _) (fun h => nomatch h) (fun c hc x hx => ?_) (fun i c j x hi hj => ?_) (fun i c j x hi hj => ?_) (fun i c j hi hj => ⟨hb, hlt⟩)
  · obtain ⟨y, -, rfl⟩ := List.mem_map.1 hc
    simp [eStr] at hx; subst hx; rfl
  all_goals
    rw [List.getElem?_map] at hi
    cases hy : xs[i]? with
    | none => rw [hy] at hi; exact nomatch hi
    | some y =>
      rw [hy] at hi; cases hi
      have hj0 : j = 0 := by
        rcases j with _ | j
        · rfl
        · simp [eStr] at hj
      subst hj0
      have hgd : xs.getD i [] = y := by rw [List.getD_eq_getElem?_getD, hy]; rfl
      rw [hgd]
      first
        | (simp only [World.cell?, h, eStr, List.length_cons, List.length_nil, Nat.zero_add, Nat.mul_one, Nat.add_zero]
           simp [hy]; done)
        | (cases hj; exact .str _)
theorem split_c (l : List UInt8) (e : UInt8) (hl : l.length ≤ 100000000) : PureCall Tryd.prog F.strings_Split [.str l, .str [e]] (asl ((parts e l).map eStr)) := by
  refine (new_of_calls rfl (known_of K.strings_Split) fun st w vals hlt htab hl2 hrel => ?_).pure rfl
  obtain ⟨a, b, rfl⟩ := vals2 hl2
  have ha := rel_str (hrel 0 _ a rfl rfl)
  have hb := rel_str (hrel 1 _ b rfl rfl)
  subst ha; subst hb
  obtain ⟨cs, ⟨m, rfl⟩, hc⟩ := cell_of_tab (g := G.internal_bytealg_MaxLen) htab memLen (by kernel_rfl)
  have hsz : (ByteArray.mk l.toArray).size = l.length := by simp [ByteArray.size]
  refine (Tryd.strings_Split ⟨l.toArray⟩ ⟨[e].toArray⟩ m w (by rw [hsz]; omega) (hc 0) (Nat.le_refl 1)).mono fun e1 w' ⟨he, hw⟩ => ⟨_, he, ?_, ?_⟩
  · subst hw; exact (Below.refl _ _).alloc (Nat.le_refl _) _
  · have hx : Lib.splitB ⟨[e].toArray⟩ 0 (Lib.countB ⟨l.toArray⟩ ⟨[e].toArray⟩) ⟨l.toArray⟩ = (parts e l).map fun x => ⟨x.toArray⟩ := by
      have h1 := Lib.splitB_data ⟨[e].toArray⟩ 0 (Lib.countB ⟨l.toArray⟩ ⟨[e].toArray⟩) ⟨l.toArray⟩
      rw [bytes_list, bytes_list] at h1
      have h2 : Lib.countB ⟨l.toArray⟩ ⟨[e].toArray⟩ = Lib.countFrom [e] (l.length + 1) l := by
        unfold Lib.countB Lib.count
        rw [bytes_list, bytes_list]
      rw [h2] at h1 ⊢
      rw [split_parts e l.length l (Nat.le_refl _) (l.length + 1) (Nat.lt_succ_self _)] at h1
      rw [← h1, List.map_map]
      conv => lhs; rw [← List.map_id (Lib.splitB ⟨[e].toArray⟩ 0 (Lib.countFrom [e] (l.length + 1) l) ⟨l.toArray⟩)]
      exact List.map_congr_left fun x _ => by simp
    have hn : Lib.countB ⟨l.toArray⟩ ⟨[e].toArray⟩ + 1 = (parts e l).length := by
      have := congrArg List.length hx
      rw [List.length_map, Lib.splitB_all ⟨[e].toArray⟩ (Nat.le_refl 1) 0 _ _ rfl] at this
      exact this
    rw [hn]
    subst hw
    rw [hx, List.map_map]
    exact strs_new (w := w) (by simp only [World.alloc, Array.getElem?_push, if_true]; rfl) (Nat.le_refl _)
end Go.Proofs.YtakkfpiibeokiaaDoor.Vm
/- SegmentList, SegmentParseList. -/
set_option linter.all false
namespace Go.Proofs.YtakkfpiibeokiaaDoor.Vm
open Go
set_option maxRecDepth 100000
set_option maxHeartbeats 4000000
theorem splitF_parts (e : UInt8) : ∀ (l cur : List UInt8), (splitF e (l ++ [e]) cur).1 = match parts e l with
    | [] => []
    | x :: r => (cur ++ x) :: r := by
  intro l
  induction l with
  | nil => intro cur; rw [List.nil_append, splitF, if_pos rfl, parts]; simp [splitF]
  | cons c l ih =>
    intro cur
    rw [List.cons_append, splitF, parts]
    split
    · rw [ih []]
      cases h : parts e l with
      | nil => exact absurd h (parts_ne e l)
      | cons x r => simp
    · rw [ih (cur ++ [c])]
      cases h : parts e l with
      | nil => exact absurd h (parts_ne e l)
      | cons x r => simp
theorem split9_parts (l : List UInt8) : (split9 (l ++ [32]) 32).1 = parts 32 l := by
  show (splitF 32 (l ++ [32]) []).1 = _
  rw [splitF_parts]
  cases parts 32 l <;> simp
theorem textParse_eq (l : List UInt8) : textParse l = if l = [] then ([], 0) else parseL (parts 32 l) := by rw [textParse, split9_parts]
theorem parts_in (e : UInt8) : ∀ (l : List UInt8) (w : List UInt8), w ∈ parts e l → w.length ≤ l.length := by
  intro l
  induction l with
  | nil => intro w h; simp [parts] at h; subst h; exact Nat.le_refl _
  | cons c l ih =>
    intro w h
    rw [parts] at h
    split at h
    · rcases List.mem_cons.1 h with rfl | h
      · simp
      · have := ih w h; simp; omega
    · split at h
      · simp at h; subst h; simp
      · rename_i x r hx
        rcases List.mem_cons.1 h with rfl | h
        · have := ih x (by rw [hx]; exact List.mem_cons_self ..); simp; omega
        · have := ih w (by rw [hx]; exact List.mem_cons_of_mem _ h); simp; omega
theorem parseList_c (l : List UInt8) (hl : l.length ≤ 1000000) : PureCall Tryd.prog F.segment_ParseList [.str l] (.tuple [asl ((textParse l).1.map Segment.enc), ai (textParse l).2]) := by
  refine contractS fits K.segment_ParseList ?_
  have hw : ∀ w ∈ parts 32 l, w.length ≤ 100000000 := fun w hw => by
    have := parts_in _ _ _ hw; omega
  have hdef : l ≠ [] → textParse l = parseL (parts 32 l) := fun h => by rw [textParse_eq, if_neg h]
  have hnn := parts_count 32 l
  have hs := split_c l 32 (by omega)
  generalize parts 32 l = ws at hw hnn hdef hs
  have hwm : (ws.map eStr).length = ws.length := List.length_map ..
  repeat' (first
      | contradiction
      | ((with_reducible refine step ?_); conv => whnf) | ((with_reducible refine br_dec (fun h => ?_) (fun h => ?_)) <;> try (exfalso; omega)) | ((with_reducible refine br_ndec (fun h => ?_) (fun h => ?_)) <;> try (exfalso; omega)) | (with_reducible refine br_not (fun h => ?_) (fun h => ?_)) | (with_reducible refine And.intro (fun h => ?_) (fun h => ?_))
      | (refine call_pure hs rfl rfl ?_; conv => whnf)
      | fail)
  · rw [textParse, if_pos (by simpa using h)]; rfl
  rw [hdef (by simpa using h)]
  clear h
  refine loop_promoteD (k := 4) (esz := 2) rfl (by decide) ?_
  refine loop_invS (fun i => i ≤ ws.length ∧ ∀ w ∈ ws.take i, (segParse w).2 = 0) [4, 12, 13, 14] 1 (fun i => [(14, ai i)]) (fun i => [(0, .arr 0 2 none ((ws.take i).map fun w => (segParse w).1.enc) false)]) (fun i => ws.length - i) 0 (by decide) (by decide) ?_
  conv => whnf
  refine ⟨rfl, rfl, by simp, fun i ⟨hi, hp⟩ => ?_⟩
  have htl : ((ws.take i).map fun w => (segParse w).1.enc).length = i := by rw [List.length_map, List.length_take]; omega
  repeat' (first
      | contradiction
      | ((with_reducible refine step ?_); conv => whnf) | ((with_reducible refine br_dec (fun h => ?_) (fun h => ?_)) <;> try (exfalso; omega)) | ((with_reducible refine br_ndec (fun h => ?_) (fun h => ?_)) <;> try (exfalso; omega)) | (with_reducible refine br_not (fun h => ?_) (fun h => ?_)) | (with_reducible refine And.intro (fun h => ?_) (fun h => ?_))
      | (have hlt : i < ws.length := (by omega); refine idx_nat hlt rfl ?_; conv => whnf)
      | (refine call_pure (segParseP_c ws[i] (hw _ (List.getElem_mem hlt))) rfl rfl ?_; conv => whnf)
      | (refine And.intro ⟨trivial, rfl, by simp [elemsOk, AV.oneC], by simp [big]; omega⟩ ?_; conv => whnf)
      | fail)
  · rename_i h
    have hd : ws = ws.take i ++ ws[i] :: ws.drop (i + 1) := by rw [List.getElem_cons_drop_succ_eq_drop, List.take_append_drop]
    have he : parseL ws = ([], (segParse ws[i]).2) := by
      rw [congrArg parseL hd]; exact parseL_no _ _ (by assumption) _ hp
    rw [he]; rfl
  · refine ⟨i + 1, ⟨by omega, fun s hs => ?_⟩, by omega, by rw [wrap_succ (by omega)]; rfl, by rw [List.take_succ_eq_append_getElem hlt, List.map_append]; rfl⟩
    rw [List.take_succ_eq_append_getElem hlt, List.mem_append] at hs
    rcases hs with hs | hs
    · exact hp s hs
    · simp at hs; subst hs; assumption
  · obtain rfl : i = ws.length := by omega
    rw [List.take_length] at hp ⊢
    rw [parseL_ok _ hp, List.map_map]; rfl
theorem decFrom_in : ∀ (l : List UInt8) (acc n : Nat), Lib.decFrom acc l = some n → ∀ b ∈ l, 48 ≤ b.toNat := by
  intro l
  induction l with
  | nil => intro acc n _ b hb; exact nomatch hb
  | cons c l ih =>
    intro acc n h b hb
    rw [Lib.decFrom] at h
    cases hd : Lib.digitVal c with
    | none => rw [hd] at h; exact nomatch h
    | some d =>
      rw [hd] at h
      rcases List.mem_cons.1 hb with rfl | hb
      · unfold Lib.digitVal at hd
        split at hd
        · rename_i h'; exact h'.1
        · exact nomatch hd
      · exact ih _ _ h b hb
theorem segText_nosp {x : Segment} : ∀ c ∈ segText x, c ≠ 32 := by
  intro c hc e
  cases h : segText x with
  | nil => rw [h] at hc; exact nomatch hc
  | cons a r =>
    obtain ⟨hk, h0, h1, e1, e2⟩ := segText_inv h
    rw [h] at hc
    rcases List.mem_cons.1 hc with rfl | hc
    · rw [e] at e1
      rcases hk with hk | hk | hk | hk <;> rw [hk] at e1 <;> exact absurd e1 (by decide)
    · rw [e2, number_pos h0] at hc
      have := decFrom_in _ 0 _ (decFrom_digF 20 x.num.toNat (by decide) (by omega)) c hc
      subst e
      exact absurd this (by decide)
theorem parts_join : ∀ (ws : List (List UInt8)), ws ≠ [] → (∀ w ∈ ws, ∀ c ∈ w, c ≠ 32) → parts 32 (joinSp ws) = ws := by
  intro ws
  induction ws with
  | nil => intro h; exact absurd rfl h
  | cons x l ih =>
    intro _ h
    have hx := h x (List.mem_cons_self ..)
    cases l with
    | nil => exact parts_none hx
    | cons y l =>
      show parts 32 (x ++ 32 :: joinSp (y :: l)) = _
      rw [parts_hit _ hx, ih (by simp) fun w hw => h w (List.mem_cons_of_mem _ hw)]
theorem join_parts : ∀ (l : List UInt8), joinSp (parts 32 l) = l := by
  intro l
  induction l with
  | nil => rfl
  | cons c l ih =>
    rw [parts]
    split
    · rename_i h
      cases hp : parts 32 l with
      | nil => exact absurd hp (parts_ne 32 l)
      | cons x r =>
        show [] ++ 32 :: joinSp (x :: r) = _
        rw [← hp, ih, h]; rfl
    · cases hp : parts 32 l with
      | nil => exact absurd hp (parts_ne 32 l)
      | cons x r =>
        rw [hp] at ih
        rw [← ih]
        cases r with
        | nil => rfl
        | cons y r => rfl
theorem parseL_inv : ∀ ws : List (List UInt8), (parseL ws).2 = 0 → (∀ w ∈ ws, (segParse w).2 = 0) := by
  intro ws
  induction ws with
  | nil => intro _ w hw; exact nomatch hw
  | cons w ws ih =>
    intro h x hx
    rw [parseL] at h
    split at h
    · rename_i h1; exact absurd h h1
    · rename_i h1
      split at h
      · rename_i h2; exact absurd h h2
      · rename_i h2
        rcases List.mem_cons.1 hx with rfl | hx
        · simpa using h1
        · exact ih (by simpa using h2) x hx
theorem list_back (l : List Segment) : (textList l = [] ∧ (l = [] ∨ ∃ s ∈ l, segText s = []) ) ∨ textParse (textList l) = (l, 0) := by
  unfold textList
  by_cases h : (l.all fun s => decide (segText s ≠ [])) = true
  · rw [if_pos h]
    simp only [List.all_eq_true, decide_eq_true_eq] at h
    cases l with
    | nil => exact .inl ⟨rfl, .inl rfl⟩
    | cons s l =>
      right
      have hne : joinSp ((s :: l).map segText) ≠ [] := by
        have hs := h s (List.mem_cons_self ..)
        cases l with
        | nil => exact hs
        | cons y l => show segText s ++ _ :: _ ≠ []; simp
      rw [textParse_eq, if_neg hne, parts_join _ (by simp) (fun w hw => by obtain ⟨x, -, rfl⟩ := List.mem_map.1 hw; exact segText_nosp)]
      have hok : ∀ x ∈ s :: l, segParse (segText x) = (x, 0) := fun x hx => by
        cases ht : segText x with
        | nil => exact absurd ht (h x hx)
        | cons c r => rw [segParse_of ht]
      rw [parseL_ok _ fun w hw => by obtain ⟨x, hx, rfl⟩ := List.mem_map.1 hw; rw [hok x hx], List.map_map]
      congr 1
      conv => rhs; rw [← List.map_id (s :: l)]
      exact List.map_congr_left fun x hx => by show (segParse (segText x)).1 = x; rw [hok x hx]
  · rw [if_neg h]
    left
    refine ⟨rfl, .inr ?_⟩
    rw [List.all_eq_true] at h
    simp at h
    exact h
theorem textParse_back {l : List UInt8} (h : (textParse l).2 = 0) : textList (textParse l).1 = l := by
  rw [textParse_eq] at h ⊢
  split
  · rename_i h1; subst h1; rfl
  · rename_i h1
    rw [if_neg h1] at h
    have hw := parseL_inv _ h
    rw [parseL_ok _ hw]
    show textList ((parts 32 l).map fun w => (segParse w).1) = l
    have ht : ∀ w ∈ parts 32 l, segText (segParse w).1 = w := fun w hm => segParse_ok (hw w hm)
    have hne : ∀ w ∈ parts 32 l, w ≠ [] := fun w hm e => by
      subst e; exact absurd (hw [] hm) (by decide)
    unfold textList
    rw [if_pos, List.map_map]
    · have : (parts 32 l).map (segText ∘ fun w => (segParse w).1) = parts 32 l := by
        conv => rhs; rw [← List.map_id (parts 32 l)]
        exact List.map_congr_left fun w hm => ht w hm
      rw [this, join_parts]
    · simp only [List.all_eq_true, decide_eq_true_eq, List.mem_map]
      rintro x ⟨w, hm, rfl⟩
      rw [ht w hm]; exact hne w hm
end Go.Proofs.YtakkfpiibeokiaaDoor.Vm
/- SegmentList, SegmentParseList: the statements. -/
set_option linter.all false
namespace Go.Proofs.YtakkfpiibeokiaaDoor.Vm
open Go
set_option maxRecDepth 100000
set_option maxHeartbeats 4000000
theorem textList_len (l : List Segment) : (textList l).length ≤ 23 * l.length := by
  unfold textList
  split
  · have := joinSp_take (l := l) l.length
    rwa [List.take_length] at this
  · exact Nat.zero_le _
theorem sSegList_c (l : List Segment) (hl : l.length ≤ 140737488355328) : PureCall Tryd.prog F.law18_SegmentList [asl (l.map Segment.enc)] (.bool true) := by
  have hlm : (l.map Segment.enc).length = l.length := List.length_map ..
  by_cases hb : l.length ≤ 100
  · have hlen := textList_len l
    have c1 := textListP_c l (by omega)
    have c2 := textList_c l (by omega)
    have c3 := parseList_c (textList l) (by omega)
    rcases list_back l with ⟨h0, h1⟩ | h1
    · rw [h0] at c1 c2 c3
      rw [show textParse [] = ([], 0) from rfl] at c3
      refine contractS fits K.law18_SegmentList ?_
      repeat' (first
        | contradiction
        | ((with_reducible refine step ?_); conv => whnf) | ((with_reducible refine br_dec (fun h => ?_) (fun h => ?_)) <;> try (exfalso; omega)) | ((with_reducible refine br_ndec (fun h => ?_) (fun h => ?_)) <;> try (exfalso; omega)) | (with_reducible refine br_not (fun h => ?_) (fun h => ?_)) | (with_reducible refine And.intro (fun h => ?_) (fun h => ?_))
        | (refine call_pure awake18_c rfl rfl ?_; conv => whnf)
        | (refine call_pure c1 rfl rfl ?_; conv => whnf)
        | (refine call_pure c2 rfl rfl ?_; conv => whnf)
        | (refine call_pure c3 rfl rfl ?_; conv => whnf)
        | fail)
      all_goals first | rfl | (exfalso; simp_all; done) | (refine congrArg AV.bool ?_; simp; done)
    · rw [h1] at c3
      have c4 := same18_c l l (by omega)
      rw [decide_eq_true rfl] at c4
      generalize textList l = x at c1 c2 c3
      refine contractS fits K.law18_SegmentList ?_
      repeat' (first
        | contradiction
        | ((with_reducible refine step ?_); conv => whnf) | ((with_reducible refine br_dec (fun h => ?_) (fun h => ?_)) <;> try (exfalso; omega)) | ((with_reducible refine br_ndec (fun h => ?_) (fun h => ?_)) <;> try (exfalso; omega)) | (with_reducible refine br_not (fun h => ?_) (fun h => ?_)) | (with_reducible refine And.intro (fun h => ?_) (fun h => ?_))
        | (refine call_pure awake18_c rfl rfl ?_; conv => whnf)
        | (refine call_pure c1 rfl rfl ?_; conv => whnf)
        | (refine call_pure c2 rfl rfl ?_; conv => whnf)
        | (refine call_pure c3 rfl rfl ?_; conv => whnf)
        | (refine call_pure c4 rfl rfl ?_; conv => whnf)
        | fail)
      all_goals first | rfl | (exfalso; simp_all; done) | (refine congrArg AV.bool ?_; simp; done)
  · refine contractS fits K.law18_SegmentList ?_
    repeat' (first
      | contradiction
      | ((with_reducible refine step ?_); conv => whnf) | ((with_reducible refine br_dec (fun h => ?_) (fun h => ?_)) <;> try (exfalso; omega)) | ((with_reducible refine br_ndec (fun h => ?_) (fun h => ?_)) <;> try (exfalso; omega)) | (with_reducible refine br_not (fun h => ?_) (fun h => ?_)) | (with_reducible refine And.intro (fun h => ?_) (fun h => ?_))
      | (refine call_pure awake18_c rfl rfl ?_; conv => whnf)
      | fail)
    all_goals rfl
theorem textParse_len (l : List UInt8) : (textParse l).1.length ≤ l.length + 1 := by
  rw [textParse_eq]
  split
  · simp
  · have : ∀ ws : List (List UInt8), (parseL ws).1.length ≤ ws.length := by
      intro ws
      induction ws with
      | nil => exact Nat.le_refl _
      | cons w ws ih =>
        rw [parseL]
        split
        · exact Nat.zero_le _
        · split
          · exact Nat.zero_le _
          · exact Nat.succ_le_succ ih
    exact Nat.le_trans (this _) (parts_count 32 l)
theorem sSegParseList_c (l : List UInt8) (hl : l.length ≤ 140737488355328) : PureCall Tryd.prog F.law18_SegmentParseList [.str l] (.bool true) := by
  by_cases hb : l.length ≤ 200
  · have c1 := parseList_c l (by omega)
    have c2 := textParse_c l (by omega)
    have hn := textParse_len l
    have c3 := textListP_c (textParse l).1 (by omega)
    have c4 := same18_c (textParse l).1 (textParse l).1 (by omega)
    rw [decide_eq_true rfl] at c4
    have hok := @textParse_back l
    generalize textParse l = q at c1 c2 c3 c4 hok
    refine contractS fits K.law18_SegmentParseList ?_
    repeat' (first
      | contradiction
      | ((with_reducible refine step ?_); conv => whnf) | ((with_reducible refine br_dec (fun h => ?_) (fun h => ?_)) <;> try (exfalso; omega)) | ((with_reducible refine br_ndec (fun h => ?_) (fun h => ?_)) <;> try (exfalso; omega)) | (with_reducible refine br_not (fun h => ?_) (fun h => ?_)) | (with_reducible refine And.intro (fun h => ?_) (fun h => ?_))
      | (refine call_pure awake18_c rfl rfl ?_; conv => whnf)
      | (refine call_pure c1 rfl rfl ?_; conv => whnf)
      | (refine call_pure c2 rfl rfl ?_; conv => whnf)
      | (refine call_pure c3 rfl rfl ?_; conv => whnf)
      | (refine call_pure c4 rfl rfl ?_; conv => whnf)
      | fail)
    all_goals first | rfl | (exfalso; simp_all; done) | (refine congrArg AV.bool ?_; simp_all; done)
  · refine contractS fits K.law18_SegmentParseList ?_
    repeat' (first
      | contradiction
      | ((with_reducible refine step ?_); conv => whnf) | ((with_reducible refine br_dec (fun h => ?_) (fun h => ?_)) <;> try (exfalso; omega)) | ((with_reducible refine br_ndec (fun h => ?_) (fun h => ?_)) <;> try (exfalso; omega)) | (with_reducible refine br_not (fun h => ?_) (fun h => ?_)) | (with_reducible refine And.intro (fun h => ?_) (fun h => ?_))
      | (refine call_pure awake18_c rfl rfl ?_; conv => whnf)
      | fail)
    all_goals first | rfl | (exfalso; omega)
end Go.Proofs.YtakkfpiibeokiaaDoor.Vm
/- Contracts: texts of components. -/
set_option linter.all false
namespace Go.Proofs.YtakkfpiibeokiaaDoor.Vm
open Go Go.RowKit
set_option maxRecDepth 100000
set_option maxHeartbeats 4000000
theorem cut_c (s sep : List UInt8) (hl : s.length ≤ 100000000) : PureCall Tryd.prog F.strings_Cut [.str s, .str sep] (.tuple [.str (Lib.cut s sep).1, .str (Lib.cut s sep).2.1, .bool (Lib.cut s sep).2.2]) := by
  refine pure_of_calls (known_of K.strings_Cut) fun st w vals hlt htab hl2 hrel => ?_
  obtain ⟨a, b, rfl⟩ := vals2 hl2
  have ha := rel_str (hrel 0 _ a rfl rfl)
  have hb := rel_str (hrel 1 _ b rfl rfl)
  subst ha; subst hb
  obtain ⟨cs, ⟨m, rfl⟩, hc⟩ := cell_of_tab (g := G.internal_bytealg_MaxLen) htab memLen (by kernel_rfl)
  have hsz : (ByteArray.mk s.toArray).size = s.length := by simp [ByteArray.size]
  refine (Tryd.strings_Cut ⟨s.toArray⟩ ⟨sep.toArray⟩ m w (by rw [hsz]; omega) (hc 0)).mono fun e w' ⟨he, n, hw⟩ => ?_
  subst hw
  rw [bytes_list, bytes_list] at he
  refine ⟨_, he, ⟨rfl, rfl, rfl, Nat.le_refl _, fun _ _ => rfl⟩, .tuple rfl fun i x v hx hv => ?_⟩
  match i with
  | 0 => cases hx; cases hv; exact .str _
  | 1 => cases hx; cases hv; exact .str _
  | 2 => cases hx; cases hv; exact .bool _
  | i + 3 => simp at hx
def compWord (k : Int) : List UInt8 := if k = 1 then [108, 105, 110, 107] else if k = 2 then [110, 111, 100, 101] else [103, 114, 111, 117, 112]
def compText (c : Comp) : List UInt8 := if 1 ≤ c.kind ∧ c.kind ≤ 3 ∧ 0 ≤ c.num ∧ c.num ≤ 999999999 then compWord c.kind ++ [32] ++ number c.num else []
theorem compText_len (c : Comp) : (compText c).length ≤ 30 := by
  unfold compText
  split
  · have := number_len c.num
    have hw : (compWord c.kind).length ≤ 5 := by unfold compWord; repeat' split
                                                 all_goals decide
    simp; omega
  · simp
theorem compTextP_c (c : Comp) : PureCall Tryd.prog F.component_Text [.agg c.enc] (.str (compText c)) := by
  have hno : (c.kind < 1 ∨ 3 < c.kind ∨ c.num < 0 ∨ 999999999 < c.num) → compText c = [] := fun h => by rw [compText, if_neg (by omega)]
  by_cases hk : c.kind = 1 ∨ c.kind = 2 ∨ c.kind = 3
  · obtain ⟨kind, n⟩ := c
    dsimp only at hk hno
    have hln := number_len n
    rcases hk with rfl | rfl | rfl
    · show PureCall Tryd.prog F.component_Text [.agg [ai 1, ai n]] _
      refine contractS fits K.component_Text ?_
      repeat' (first
        | contradiction
        | (exfalso; revert h; decide)
        | ((with_reducible refine step ?_); conv => whnf) | ((with_reducible refine br_dec (fun h => ?_) (fun h => ?_)) <;> try (exfalso; omega)) | ((with_reducible refine br_ndec (fun h => ?_) (fun h => ?_)) <;> try (exfalso; omega)) | (with_reducible refine br_not (fun h => ?_) (fun h => ?_)) | (with_reducible refine And.intro (fun h => ?_) (fun h => ?_))
        | (refine call_pure (itoaN_c n (by omega) (by omega)) rfl rfl ?_; conv => whnf)
        | (refine call_pure words_c rfl rfl ?_; conv => whnf)
        | (refine ⟨1, rfl, by decide, ?_⟩; conv => whnf)
        | (refine And.intro (by simp <;> omega) ?_; conv => whnf)
        | fail)
      all_goals first
        | (rw [hno (by omega)]; done)
        | (rw [compText, if_pos (by simp; omega)]; rfl)
       
    · show PureCall Tryd.prog F.component_Text [.agg [ai 2, ai n]] _
      refine contractS fits K.component_Text ?_
      repeat' (first
        | contradiction
        | (exfalso; revert h; decide)
        | ((with_reducible refine step ?_); conv => whnf) | ((with_reducible refine br_dec (fun h => ?_) (fun h => ?_)) <;> try (exfalso; omega)) | ((with_reducible refine br_ndec (fun h => ?_) (fun h => ?_)) <;> try (exfalso; omega)) | (with_reducible refine br_not (fun h => ?_) (fun h => ?_)) | (with_reducible refine And.intro (fun h => ?_) (fun h => ?_))
        | (refine call_pure (itoaN_c n (by omega) (by omega)) rfl rfl ?_; conv => whnf)
        | (refine call_pure words_c rfl rfl ?_; conv => whnf)
        | (refine ⟨2, rfl, by decide, ?_⟩; conv => whnf)
        | (refine And.intro (by simp <;> omega) ?_; conv => whnf)
        | fail)
      all_goals first
        | (rw [hno (by omega)]; done)
        | (rw [compText, if_pos (by simp; omega)]; rfl)
       
    · show PureCall Tryd.prog F.component_Text [.agg [ai 3, ai n]] _
      refine contractS fits K.component_Text ?_
      repeat' (first
        | contradiction
        | (exfalso; revert h; decide)
        | ((with_reducible refine step ?_); conv => whnf) | ((with_reducible refine br_dec (fun h => ?_) (fun h => ?_)) <;> try (exfalso; omega)) | ((with_reducible refine br_ndec (fun h => ?_) (fun h => ?_)) <;> try (exfalso; omega)) | (with_reducible refine br_not (fun h => ?_) (fun h => ?_)) | (with_reducible refine And.intro (fun h => ?_) (fun h => ?_))
        | (refine call_pure (itoaN_c n (by omega) (by omega)) rfl rfl ?_; conv => whnf)
        | (refine call_pure words_c rfl rfl ?_; conv => whnf)
        | (refine ⟨3, rfl, by decide, ?_⟩; conv => whnf)
        | (refine And.intro (by simp <;> omega) ?_; conv => whnf)
        | fail)
      all_goals first
        | (rw [hno (by omega)]; done)
        | (rw [compText, if_pos (by simp; omega)]; rfl)
       
  · refine contractS fits K.component_Text ?_
    repeat' (first
        | (exfalso; revert h; decide)
        | ((with_reducible refine step ?_); conv => whnf)
        | (with_reducible refine And.intro (fun h => ?_) (fun h => ?_))
        | fail)
    all_goals simp only [decide_eq_true_eq, decide_eq_false_iff_not] at *
    all_goals first
        | (rw [hno (by omega)]; done)
        | (exfalso; omega)
theorem compText10_c (c : Comp) : PureCall Tryd.prog F.ref10_Text [.agg c.enc] (.str (compText c)) := by
  have hln := number_len c.num
  refine contractS fits K.ref10_Text ?_
  repeat' (first
      | contradiction
      | ((with_reducible refine step ?_); conv => whnf) | ((with_reducible refine br_dec (fun h => ?_) (fun h => ?_)) <;> try (exfalso; omega)) | ((with_reducible refine br_ndec (fun h => ?_) (fun h => ?_)) <;> try (exfalso; omega)) | (with_reducible refine br_not (fun h => ?_) (fun h => ?_)) | (with_reducible refine And.intro (fun h => ?_) (fun h => ?_))
      | (refine call_pure (number_c c.num (by unfold i64; omega)) rfl rfl ?_; conv => whnf)
      | (refine And.intro (by simp <;> omega) ?_; conv => whnf)
      | fail)
  all_goals first
    | (rw [compText, if_neg (by omega)]; done)
    | (rw [compText, if_pos (by omega), compWord, if_pos (by assumption)]; rfl)
    | (rw [compText, if_pos (by omega), compWord, if_neg (by omega), if_pos (by assumption)]; rfl)
    | (rw [compText, if_pos (by omega), compWord, if_neg (by omega), if_neg (by omega)]; rfl)
   
end Go.Proofs.YtakkfpiibeokiaaDoor.Vm
