/- The kit's contracts of the library, laid at this seat by the kit's own tools. -/
import Derived.Shelf.Strings.Builder1
import Derived.Shelf.Strings.Builder2
import Derived.Shelf.Strings.OnBuilder
import Derived.Shelf.Small.Bits
import Derived.Shelf.Small.Wraps
import Derived.Shelf.Strings.BuilderF
import Derived.Shelf.Utf8.RuneCount
import Derived.Shelf.Strings.Builder2Cap
import Derived.Shelf.Strconv.Atoi
import Derived.Shelf.Strconv.Itoa0
import Derived.Shelf.Strconv.Itoa1
import Derived.Shelf.LaysM
import Derived.Shelf.Strconv.Itoa2
import Derived.Shelf.Strconv.Itoa3
import Derived.Shelf.Strconv.AtoiErrFast
import Derived.Shelf.Strconv.ParseIntEmpty
import Derived.Shelf.Strconv.AtoiFail
import Derived.Shelf.Strconv.Clone
import Derived.Shelf.Strconv.SyntaxError
import Derived.Shelf.LaysC
import Derived.Shelf.Strconv.ToError
import Derived.Shelf.Strconv.Lower
import Derived.Shelf.Strconv.ParseUint10
import Derived.Shelf.Strconv.ParseUint10Empty
import Derived.Shelf.Strconv.ParseUint10Any
import Derived.Shelf.Strconv.ParseInt10
import Derived.Shelf.Strconv.AtoiLong
import Derived.Shelf.Strconv.AtoiInnerAll
import Derived.Shelf.Strconv.RangeError
import Derived.Shelf.Strconv.ToErrorRange
import Derived.Shelf.Strconv.AtoiAll
import Derived.Shelf.Strconv.ErrVarAll
import Derived.Shelf.Strconv.ParseUintEmpty
import Derived.Shelf.Strings.Search1
import Derived.Shelf.Strings.Search2
import Derived.Shelf.Strings.Search3
import Derived.Shelf.Strings.Cut
import Derived.Shelf.Strings.Count
import Derived.Shelf.Strings.Shaped
import Derived.Shelf.Strings.Split
import Derived.Shelf.Strings.SplitShaped
import Derived.Shelf.Unicode.Decode
import Derived.Shelf.Strings.RuneCount
import Derived.Shelf.Strings.Explode
import Derived.Shelf.Unicode.DecodeSlow
import Derived.Shelf.Unicode.DecodeAny
import Derived.Shelf.Slices.SearchI
import Derived.Test.YtllpenkgaomdfaaDoorProg
import Derived.KernelRfl
import Derived.Test.YtllpenkgaomdfaaDoorP04
import Derived.Lib.AppendIntMem
import Derived.Lib.Join
import Derived.Lib.AtoiTie
import Derived.Lib.SmallJoins
import Derived.Lib.IndexBytes
import Derived.Lib.Split
import Derived.Lib.CountLaws
set_option linter.all false
namespace Go.Proofs.YtllpenkgaomdfaaDoor.Vm
open Go Go.Proofs Go.Shelf
def Tryd.lays156_ren : Go.Shelf.Ren := ⟨fun | 156 => 31 | 165 => 44 | 166 => 45 | 169 => 46 | 240 => 56 | 241 => 57 | 276 => 81 | 277 => 82 | n => n, fun | 31 => 46 | 9 => 9 | 3 => 3 | 4 => 4 | 0 => 0 | 20 => 20 | 72 => 68 | 76 => 57 | 70 => 65 | 37 => 66 | 75 => 56 | 127 => 80 | 164 => 103 | 5 => 5 | 80 => 70 | n => n, fun | n => n⟩
theorem Tryd.lays156 : Go.Proofs.Lays.n156 Tryd.prog Tryd.lays156_ren := {
  mixed := by kernel_rfl
  f156 := Tryd.func31.trans (congrArg some (by kernel_rfl))
  f165 := Tryd.func44.trans (congrArg some (by kernel_rfl))
  f166 := Tryd.func45.trans (congrArg some (by kernel_rfl))
  f169 := Tryd.func46.trans (congrArg some (by kernel_rfl))
  f240 := Tryd.func56.trans (congrArg some (by kernel_rfl))
  f241 := Tryd.func57.trans (congrArg some (by kernel_rfl))
  f276 := Tryd.func81.trans (congrArg some (by kernel_rfl))
  f277 := Tryd.func82.trans (congrArg some (by kernel_rfl))
  t0 := Tryd.underlying0
  a0 := Tryd.isAgg0
  z0 := Tryd.sizeOf0
  v0 := Tryd.zeroValue0
  t3 := Tryd.underlying3
  a3 := Tryd.isAgg3
  z3 := Tryd.sizeOf3
  v3 := Tryd.zeroValue3
  t4 := Tryd.underlying4
  a4 := Tryd.isAgg4
  z4 := Tryd.sizeOf4
  v4 := Tryd.zeroValue4
  t9 := Tryd.underlying9
  a9 := Tryd.isAgg9
  z9 := Tryd.sizeOf9
  v9 := Tryd.zeroValue9
  t20 := Tryd.underlying20
  a20 := Tryd.isAgg20
  z20 := Tryd.sizeOf20
  v20 := Tryd.zeroValue20
  t31 := Tryd.underlying46
  a31 := Tryd.isAgg46
  z31 := Tryd.sizeOf46
  v31 := Tryd.zeroValue46
  t37 := Tryd.underlying66
  a37 := Tryd.isAgg66
  z37 := Tryd.sizeOf66
  v37 := Tryd.zeroValue66
  t70 := Tryd.underlying65
  a70 := Tryd.isAgg65
  z70 := Tryd.sizeOf65
  v70 := Tryd.zeroValue65
  t72 := Tryd.underlying68
  a72 := Tryd.isAgg68
  z72 := Tryd.sizeOf68
  v72 := Tryd.zeroValue68
  t75 := Tryd.underlying56
  a75 := Tryd.isAgg56
  z75 := Tryd.sizeOf56
  v75 := Tryd.zeroValue56
  t76 := Tryd.underlying57
  a76 := Tryd.isAgg57
  z76 := Tryd.sizeOf57
  v76 := Tryd.zeroValue57
  t127 := Tryd.underlying80
  a127 := Tryd.isAgg80
  z127 := Tryd.sizeOf80
  v127 := Tryd.zeroValue80
  t164 := Tryd.underlying103
  a164 := Tryd.isAgg103
  z164 := Tryd.sizeOf103
  v164 := Tryd.zeroValue103 }
theorem Tryd.Builder_Extra_156 : Builder.Extra Tryd.prog Tryd.lays156_ren := {
  sizeBuilder := by kernel_rfl
  liesBuilder := by kernel_rfl
  t5 := Tryd.underlying5
  a5 := Tryd.isAgg5
  z5 := Tryd.sizeOf5
  v5 := Tryd.zeroValue5
  infoByte := by kernel_rfl
  cellsByte := by kernel_rfl
  sizeByte := by kernel_rfl
  neB5 := by decide }
open Go.RowKit in
theorem Tryd.strings_Join_none (a : Option Addr) (c : Nat) (sep : ByteArray) (w : World) :
    Calls Tryd.prog 31 #[.slice a 0 c, .string sep] w fun e w' => e = .returned (.string ⟨#[]⟩) ∧ w' = w := Any.strings_Join_none Tryd.lays156 Tryd.Builder_Extra_156 a c sep w
open Go.RowKit in
theorem Tryd.strings_Join (bk o c : Nat) (xs : List ByteArray) (sep : ByteArray) (w : World) (hcells : ∀ (j : Nat) x, xs[j]? = some x → w.cell? ⟨bk, o + j, none⟩ = some (.string x)) (hbk : bk < w.heap.size) (hN : xs.length ≤ 140737488355328) (hcap : xs.length ≤ c) (hlen : (Lib.join (xs.map (·.data.toList)) sep.data.toList).length ≤ 140737488355328) :
    Calls Tryd.prog 31 #[.slice (some ⟨bk, o, none⟩) xs.length c, .string sep] w fun e w' => e = .returned (.string ⟨(Lib.join (xs.map (·.data.toList)) sep.data.toList).toArray⟩) ∧ Below w.heap.size w w' := Any.strings_Join Tryd.lays156 Tryd.Builder_Extra_156 bk o c xs sep w hcells hbk hN hcap hlen
def Tryd.laysM171_ren : Go.Shelf.Ren := ⟨fun | 171 => 30 | 243 => 43 | 246 => 55 | 283 => 77 | 284 => 78 | 285 => 79 | 286 => 80 | 129 => 76 | 317 => 98 | 318 => 99 | 319 => 100 | 320 => 101 | 337 => 108 | 338 => 109 | n => n, fun | 3 => 3 | 9 => 9 | 2 => 2 | 4 => 4 | 171 => 99 | 0 => 0 | 53 => 71 | 37 => 66 | 5 => 5 | 173 => 101 | 212 => 124 | 51 => 22 | 20 => 20 | 213 => 125 | 46 => 49 | 232 => 139 | 233 => 140 | n => n, fun | 17 => 3 | 18 => 6 | 19 => 7 | n => n⟩
theorem Tryd.laysM171 : Go.Proofs.LaysM.n171 Tryd.prog Tryd.laysM171_ren := {
  mixed := by kernel_rfl
  f129 := Tryd.func76.trans (congrArg some (by kernel_rfl))
  f171 := Tryd.func30.trans (congrArg some (by kernel_rfl))
  f243 := Tryd.func43.trans (congrArg some (by kernel_rfl))
  f246 := Tryd.func55.trans (congrArg some (by kernel_rfl))
  f283 := Tryd.func77.trans (congrArg some (by kernel_rfl))
  f284 := Tryd.func78.trans (congrArg some (by kernel_rfl))
  f285 := Tryd.func79.trans (congrArg some (by kernel_rfl))
  f286 := Tryd.func80.trans (congrArg some (by kernel_rfl))
  f317 := Tryd.func98.trans (congrArg some (by kernel_rfl))
  f318 := Tryd.func99.trans (congrArg some (by kernel_rfl))
  f319 := Tryd.func100.trans (congrArg some (by kernel_rfl))
  f320 := Tryd.func101.trans (congrArg some (by kernel_rfl))
  f337 := Tryd.func108.trans (congrArg some (by kernel_rfl))
  f338 := Tryd.func109.trans (congrArg some (by kernel_rfl))
  t0 := Tryd.underlying0
  a0 := Tryd.isAgg0
  z0 := Tryd.sizeOf0
  v0 := Tryd.zeroValue0
  t2 := Tryd.underlying2
  a2 := Tryd.isAgg2
  z2 := Tryd.sizeOf2
  v2 := Tryd.zeroValue2
  t3 := Tryd.underlying3
  a3 := Tryd.isAgg3
  z3 := Tryd.sizeOf3
  v3 := Tryd.zeroValue3
  t4 := Tryd.underlying4
  a4 := Tryd.isAgg4
  z4 := Tryd.sizeOf4
  v4 := Tryd.zeroValue4
  t5 := Tryd.underlying5
  a5 := Tryd.isAgg5
  z5 := Tryd.sizeOf5
  v5 := Tryd.zeroValue5
  t9 := Tryd.underlying9
  a9 := Tryd.isAgg9
  z9 := Tryd.sizeOf9
  v9 := Tryd.zeroValue9
  t20 := Tryd.underlying20
  a20 := Tryd.isAgg20
  z20 := Tryd.sizeOf20
  v20 := Tryd.zeroValue20
  t37 := Tryd.underlying66
  a37 := Tryd.isAgg66
  z37 := Tryd.sizeOf66
  v37 := Tryd.zeroValue66
  t46 := Tryd.underlying49
  a46 := Tryd.isAgg49
  z46 := Tryd.sizeOf49
  v46 := Tryd.zeroValue49
  t51 := Tryd.underlying22
  a51 := Tryd.isAgg22
  z51 := Tryd.sizeOf22
  v51 := Tryd.zeroValue22
  t53 := Tryd.underlying71
  a53 := Tryd.isAgg71
  z53 := Tryd.sizeOf71
  v53 := Tryd.zeroValue71
  t171 := Tryd.underlying99
  a171 := Tryd.isAgg99
  z171 := Tryd.sizeOf99
  v171 := Tryd.zeroValue99
  t173 := Tryd.underlying101
  a173 := Tryd.isAgg101
  z173 := Tryd.sizeOf101
  v173 := Tryd.zeroValue101
  t212 := Tryd.underlying124
  a212 := Tryd.isAgg124
  z212 := Tryd.sizeOf124
  v212 := Tryd.zeroValue124
  t213 := Tryd.underlying125
  a213 := Tryd.isAgg125
  z213 := Tryd.sizeOf125
  t232 := Tryd.underlying139
  a232 := Tryd.isAgg139
  z232 := Tryd.sizeOf139
  v232 := Tryd.zeroValue139
  t233 := Tryd.underlying140
  a233 := Tryd.isAgg140
  z233 := Tryd.sizeOf140
  v233 := Tryd.zeroValue140
  g17 := by kernel_rfl
  g18 := by kernel_rfl
  g19 := by kernel_rfl
  i0 := by kernel_rfl
  i2 := by kernel_rfl
  i3 := by kernel_rfl
  i4 := by kernel_rfl
  i5 := by kernel_rfl
  i9 := by kernel_rfl
  i20 := by kernel_rfl
  i37 := by kernel_rfl
  i46 := by kernel_rfl
  i51 := by kernel_rfl
  i53 := by kernel_rfl
  i171 := by kernel_rfl
  i173 := by kernel_rfl
  i212 := by kernel_rfl
  i232 := by kernel_rfl
  i233 := by kernel_rfl
  m17 := by kernel_rfl
  m18 := by kernel_rfl
  m19 := by kernel_rfl }
open Go.RowKit Go.Sort Go.Lib in
theorem Tryd.strconv_Itoa (n : Int) (h0 : -9223372036854775808 ≤ n) (h1 : n ≤ 9223372036854775807) (w : World) (htab : Lib.TabIs Tryd.prog w "internal/strconv.uint64pow10" .u64 Lib.pow10Tab) :
    Calls Tryd.prog 30 #[.int .i64 n] w fun e w' => e = .returned (.string ⟨(Lib.itoa n).toArray⟩) ∧ ∃ k os, w' = grow (w.drewN k) os := Any.strconv_Itoa Tryd.laysM171 n h0 h1 w htab
def Tryd.laysC172_ren : Go.Shelf.Ren := ⟨fun | 172 => 37 | 244 => 49 | 245 => 50 | 247 => 62 | 279 => 63 | 280 => 64 | 281 => 65 | 282 => 66 | 287 => 90 | 316 => 91 | 171 => 30 | 205 => 92 | 321 => 105 | 322 => 106 | 243 => 43 | 246 => 55 | 283 => 77 | 284 => 78 | 285 => 79 | 286 => 80 | 129 => 76 | 317 => 98 | 318 => 99 | 319 => 100 | 320 => 101 | 337 => 108 | 338 => 109 | n => n, fun | 9 => 9 | 3 => 3 | 75 => 56 | 76 => 57 | 4 => 4 | 5 => 5 | 167 => 83 | 37 => 66 | 0 => 0 | 85 => 84 | 2 => 2 | 168 => 86 | 53 => 71 | 175 => 111 | 46 => 49 | 210 => 115 | 127 => 80 | 145 => 131 | 143 => 129 | 21 => 21 | 171 => 99 | 173 => 101 | 212 => 124 | 51 => 22 | 20 => 20 | 213 => 125 | 232 => 139 | 233 => 140 | 80 => 70 | n => n, fun | 15 => 1 | 16 => 2 | 17 => 3 | 18 => 6 | 19 => 7 | n => n⟩
theorem Tryd.laysC172 : Go.Proofs.LaysC.n172 Tryd.prog Tryd.laysC172_ren := {
  mixed := by kernel_rfl
  f129 := Tryd.func76.trans (congrArg some (by kernel_rfl))
  f171 := Tryd.func30.trans (congrArg some (by kernel_rfl))
  f172 := Tryd.func37.trans (congrArg some (by kernel_rfl))
  f205 := Tryd.func92.trans (congrArg some (by kernel_rfl))
  f243 := Tryd.func43.trans (congrArg some (by kernel_rfl))
  f244 := Tryd.func49.trans (congrArg some (by kernel_rfl))
  f245 := Tryd.func50.trans (congrArg some (by kernel_rfl))
  f246 := Tryd.func55.trans (congrArg some (by kernel_rfl))
  f247 := Tryd.func62.trans (congrArg some (by kernel_rfl))
  f279 := Tryd.func63.trans (congrArg some (by kernel_rfl))
  f280 := Tryd.func64.trans (congrArg some (by kernel_rfl))
  f281 := Tryd.func65.trans (congrArg some (by kernel_rfl))
  f282 := Tryd.func66.trans (congrArg some (by kernel_rfl))
  f283 := Tryd.func77.trans (congrArg some (by kernel_rfl))
  f284 := Tryd.func78.trans (congrArg some (by kernel_rfl))
  f285 := Tryd.func79.trans (congrArg some (by kernel_rfl))
  f286 := Tryd.func80.trans (congrArg some (by kernel_rfl))
  f287 := Tryd.func90.trans (congrArg some (by kernel_rfl))
  f316 := Tryd.func91.trans (congrArg some (by kernel_rfl))
  f317 := Tryd.func98.trans (congrArg some (by kernel_rfl))
  f318 := Tryd.func99.trans (congrArg some (by kernel_rfl))
  f319 := Tryd.func100.trans (congrArg some (by kernel_rfl))
  f320 := Tryd.func101.trans (congrArg some (by kernel_rfl))
  f321 := Tryd.func105.trans (congrArg some (by kernel_rfl))
  f322 := Tryd.func106.trans (congrArg some (by kernel_rfl))
  f337 := Tryd.func108.trans (congrArg some (by kernel_rfl))
  f338 := Tryd.func109.trans (congrArg some (by kernel_rfl))
  t0 := Tryd.underlying0
  a0 := Tryd.isAgg0
  z0 := Tryd.sizeOf0
  v0 := Tryd.zeroValue0
  t2 := Tryd.underlying2
  a2 := Tryd.isAgg2
  z2 := Tryd.sizeOf2
  v2 := Tryd.zeroValue2
  t3 := Tryd.underlying3
  a3 := Tryd.isAgg3
  z3 := Tryd.sizeOf3
  v3 := Tryd.zeroValue3
  t4 := Tryd.underlying4
  a4 := Tryd.isAgg4
  z4 := Tryd.sizeOf4
  v4 := Tryd.zeroValue4
  t5 := Tryd.underlying5
  a5 := Tryd.isAgg5
  z5 := Tryd.sizeOf5
  v5 := Tryd.zeroValue5
  t9 := Tryd.underlying9
  a9 := Tryd.isAgg9
  z9 := Tryd.sizeOf9
  v9 := Tryd.zeroValue9
  t20 := Tryd.underlying20
  a20 := Tryd.isAgg20
  z20 := Tryd.sizeOf20
  v20 := Tryd.zeroValue20
  t21 := Tryd.underlying21
  a21 := Tryd.isAgg21
  z21 := Tryd.sizeOf21
  v21 := Tryd.zeroValue21
  t37 := Tryd.underlying66
  a37 := Tryd.isAgg66
  z37 := Tryd.sizeOf66
  v37 := Tryd.zeroValue66
  t46 := Tryd.underlying49
  a46 := Tryd.isAgg49
  z46 := Tryd.sizeOf49
  v46 := Tryd.zeroValue49
  t51 := Tryd.underlying22
  a51 := Tryd.isAgg22
  z51 := Tryd.sizeOf22
  v51 := Tryd.zeroValue22
  t53 := Tryd.underlying71
  a53 := Tryd.isAgg71
  z53 := Tryd.sizeOf71
  v53 := Tryd.zeroValue71
  t75 := Tryd.underlying56
  a75 := Tryd.isAgg56
  z75 := Tryd.sizeOf56
  v75 := Tryd.zeroValue56
  t76 := Tryd.underlying57
  a76 := Tryd.isAgg57
  z76 := Tryd.sizeOf57
  v76 := Tryd.zeroValue57
  t85 := Tryd.underlying84
  a85 := Tryd.isAgg84
  z85 := Tryd.sizeOf84
  v85 := Tryd.zeroValue84
  t127 := Tryd.underlying80
  a127 := Tryd.isAgg80
  z127 := Tryd.sizeOf80
  v127 := Tryd.zeroValue80
  t143 := Tryd.underlying129
  a143 := Tryd.isAgg129
  z143 := Tryd.sizeOf129
  v143 := Tryd.zeroValue129
  t145 := Tryd.underlying131
  a145 := Tryd.isAgg131
  z145 := Tryd.sizeOf131
  v145 := Tryd.zeroValue131
  t167 := Tryd.underlying83
  a167 := Tryd.isAgg83
  z167 := Tryd.sizeOf83
  v167 := Tryd.zeroValue83
  t168 := Tryd.underlying86
  a168 := Tryd.isAgg86
  z168 := Tryd.sizeOf86
  v168 := Tryd.zeroValue86
  t171 := Tryd.underlying99
  a171 := Tryd.isAgg99
  z171 := Tryd.sizeOf99
  v171 := Tryd.zeroValue99
  t173 := Tryd.underlying101
  a173 := Tryd.isAgg101
  z173 := Tryd.sizeOf101
  v173 := Tryd.zeroValue101
  t175 := Tryd.underlying111
  a175 := Tryd.isAgg111
  z175 := Tryd.sizeOf111
  v175 := Tryd.zeroValue111
  t210 := Tryd.underlying115
  a210 := Tryd.isAgg115
  z210 := Tryd.sizeOf115
  v210 := Tryd.zeroValue115
  t212 := Tryd.underlying124
  a212 := Tryd.isAgg124
  z212 := Tryd.sizeOf124
  v212 := Tryd.zeroValue124
  t213 := Tryd.underlying125
  a213 := Tryd.isAgg125
  z213 := Tryd.sizeOf125
  t232 := Tryd.underlying139
  a232 := Tryd.isAgg139
  z232 := Tryd.sizeOf139
  v232 := Tryd.zeroValue139
  t233 := Tryd.underlying140
  a233 := Tryd.isAgg140
  z233 := Tryd.sizeOf140
  v233 := Tryd.zeroValue140
  g15 := by kernel_rfl
  g16 := by kernel_rfl
  g17 := by kernel_rfl
  g18 := by kernel_rfl
  g19 := by kernel_rfl
  t80 := Tryd.underlying70
  a80 := Tryd.isAgg70
  z80 := Tryd.sizeOf70
  v80 := Tryd.zeroValue70
  i0 := by kernel_rfl
  i2 := by kernel_rfl
  i3 := by kernel_rfl
  i4 := by kernel_rfl
  i5 := by kernel_rfl
  i9 := by kernel_rfl
  i20 := by kernel_rfl
  i21 := by kernel_rfl
  i37 := by kernel_rfl
  i46 := by kernel_rfl
  i51 := by kernel_rfl
  i53 := by kernel_rfl
  i75 := by kernel_rfl
  i76 := by kernel_rfl
  i80 := by kernel_rfl
  i85 := by kernel_rfl
  i127 := by kernel_rfl
  i143 := by kernel_rfl
  i145 := by kernel_rfl
  i167 := by kernel_rfl
  i168 := by kernel_rfl
  i171 := by kernel_rfl
  i173 := by kernel_rfl
  i175 := by kernel_rfl
  i210 := by kernel_rfl
  i212 := by kernel_rfl
  i232 := by kernel_rfl
  i233 := by kernel_rfl
  m15 := by kernel_rfl
  m16 := by kernel_rfl
  m17 := by kernel_rfl
  m18 := by kernel_rfl
  m19 := by kernel_rfl
  c0 := by kernel_rfl
  c2 := by kernel_rfl
  c3 := by kernel_rfl
  c4 := by kernel_rfl
  c5 := by kernel_rfl
  c9 := by kernel_rfl
  c20 := by kernel_rfl
  c21 := by kernel_rfl
  c37 := by kernel_rfl
  c46 := by kernel_rfl
  c51 := by kernel_rfl
  c53 := by kernel_rfl
  c75 := by kernel_rfl
  c76 := by kernel_rfl
  c80 := by kernel_rfl
  c85 := by kernel_rfl
  c127 := by kernel_rfl
  c143 := by kernel_rfl
  c145 := by kernel_rfl
  c167 := by kernel_rfl
  c168 := by kernel_rfl
  c171 := by kernel_rfl
  c173 := by kernel_rfl
  c175 := by kernel_rfl
  c210 := by kernel_rfl
  c212 := by kernel_rfl
  c213 := by kernel_rfl
  c232 := by kernel_rfl
  c233 := by kernel_rfl }
open Go.RowKit in
theorem Tryd.strconv_Atoi_ok (s : ByteArray) (hmax : s.size ≤ 9223372036854775806) (v : Int) (h : Lib.atoiAll s.data.toList = .ok v) (w : World) :
    Calls Tryd.prog 37 #[.string s] w fun e w' => e = .returned (.tuple #[.int .i64 v, .nilIface]) ∧ (w' = w ∨ ∃ t, w' = Lib.bytesWorld w 5 t) := Any.strconv_Atoi_ok Tryd.laysC172 s hmax v h w
open Go.RowKit in
theorem Tryd.strconv_Atoi_syntax (s : ByteArray) (hlim : s.size ≤ 281474976710656) (h : Lib.atoiAll s.data.toList = .«syntax») (ev : Value) (w : World) (hv : w.cell? ⟨1, 0, none⟩ = some ev) (hev : ev = .nilIface ∨ ∃ te pe, ev = .iface te pe) :
    Calls Tryd.prog 37 #[.string s] w fun e w' => ∃ N, e = .returned (.tuple #[.int .i64 (0), .iface 86 (.pointer (some ⟨N, 0, none⟩))]) ∧ w.heap.size ≤ N ∧ w'.heap[N]? = some (.cells #[.string ⟨#[65, 116, 111, 105]⟩, .string s, ev] 115 (0, 0)) ∧ Below w.heap.size w w' := Any.strconv_Atoi_syntax Tryd.laysC172 s hlim h ev w hv hev
open Go.RowKit in
theorem Tryd.strconv_Atoi_range (s : ByteArray) (hlim : s.size ≤ 281474976710656) (h : Lib.atoiAll s.data.toList = .range) (ev : Value) (w : World) (hv : w.cell? ⟨2, 0, none⟩ = some ev) (hev : ev = .nilIface ∨ ∃ te pe, ev = .iface te pe) :
    Calls Tryd.prog 37 #[.string s] w fun e w' => ∃ N, e = .returned (.tuple #[.int .i64 (Lib.atoiSat s.data.toList), .iface 86 (.pointer (some ⟨N, 0, none⟩))]) ∧ w.heap.size ≤ N ∧ w'.heap[N]? = some (.cells #[.string ⟨#[65, 116, 111, 105]⟩, .string s, ev] 115 (0, 0)) ∧ Below w.heap.size w w' := Any.strconv_Atoi_range Tryd.laysC172 s hlim h ev w hv hev
def Tryd.lays145_ren : Go.Shelf.Ren := ⟨fun | 145 => 35 | 220 => 47 | 219 => 58 | 217 => 83 | 225 => 84 | 224 => 85 | 267 => 86 | 266 => 102 | 314 => 103 | n => n, fun | 9 => 9 | 4 => 4 | 59 => 52 | 3 => 3 | 5 => 5 | 46 => 49 | 146 => 126 | 51 => 22 | n => n, fun | 1 => 0 | n => n⟩
theorem Tryd.lays145 : Go.Proofs.Lays.n145 Tryd.prog Tryd.lays145_ren := {
  mixed := by kernel_rfl
  f145 := Tryd.func35.trans (congrArg some (by kernel_rfl))
  f217 := Tryd.func83.trans (congrArg some (by kernel_rfl))
  f219 := Tryd.func58.trans (congrArg some (by kernel_rfl))
  f220 := Tryd.func47.trans (congrArg some (by kernel_rfl))
  f224 := Tryd.func85.trans (congrArg some (by kernel_rfl))
  f225 := Tryd.func84.trans (congrArg some (by kernel_rfl))
  f266 := Tryd.func102.trans (congrArg some (by kernel_rfl))
  f267 := Tryd.func86.trans (congrArg some (by kernel_rfl))
  f314 := Tryd.func103.trans (congrArg some (by kernel_rfl))
  t3 := Tryd.underlying3
  a3 := Tryd.isAgg3
  z3 := Tryd.sizeOf3
  v3 := Tryd.zeroValue3
  t4 := Tryd.underlying4
  a4 := Tryd.isAgg4
  z4 := Tryd.sizeOf4
  v4 := Tryd.zeroValue4
  t5 := Tryd.underlying5
  a5 := Tryd.isAgg5
  z5 := Tryd.sizeOf5
  v5 := Tryd.zeroValue5
  t9 := Tryd.underlying9
  a9 := Tryd.isAgg9
  z9 := Tryd.sizeOf9
  v9 := Tryd.zeroValue9
  t46 := Tryd.underlying49
  a46 := Tryd.isAgg49
  z46 := Tryd.sizeOf49
  v46 := Tryd.zeroValue49
  t51 := Tryd.underlying22
  a51 := Tryd.isAgg22
  z51 := Tryd.sizeOf22
  v51 := Tryd.zeroValue22
  t59 := Tryd.underlying52
  a59 := Tryd.isAgg52
  z59 := Tryd.sizeOf52
  v59 := Tryd.zeroValue52
  t146 := Tryd.underlying126
  a146 := Tryd.isAgg126
  z146 := Tryd.sizeOf126
  v146 := Tryd.zeroValue126
  g1 := by kernel_rfl }
open Go.RowKit Go.Lib in
theorem Tryd.strings_Cut (s sep : ByteArray) (m : Int) (w : World) (hs : s.size < 4294967281) (hm : w.cell? ⟨0, 0, none⟩ = some (.int .i64 m)) :
    Calls Tryd.prog 35 #[.string s, .string sep] w fun e w' => e = .returned (.tuple #[.string ⟨(Lib.cut s.data.toList sep.data.toList).1.toArray⟩, .string ⟨(Lib.cut s.data.toList sep.data.toList).2.1.toArray⟩, .bool (Lib.cut s.data.toList sep.data.toList).2.2]) ∧ ∃ n, w' = w.drewN n := Any.strings_Cut Tryd.lays145 s sep m w hs hm
def Tryd.lays146_ren : Go.Shelf.Ren := ⟨fun | 146 => 36 | 221 => 48 | 268 => 59 | 138 => 60 | 143 => 61 | 195 => 87 | 197 => 88 | 218 => 89 | 219 => 58 | 260 => 104 | 217 => 83 | 225 => 84 | 224 => 85 | 267 => 86 | 266 => 102 | 314 => 103 | n => n, fun | 9 => 9 | 31 => 46 | 3 => 3 | 4 => 4 | 0 => 0 | 105 => 109 | 21 => 21 | 5 => 5 | 46 => 49 | 119 => 135 | 139 => 138 | 138 => 137 | 146 => 126 | 51 => 22 | n => n, fun | 1 => 0 | 3 => 4 | 4 => 5 | n => n⟩
theorem Tryd.lays146 : Go.Proofs.Lays.n146 Tryd.prog Tryd.lays146_ren := {
  mixed := by kernel_rfl
  f138 := Tryd.func60.trans (congrArg some (by kernel_rfl))
  f143 := Tryd.func61.trans (congrArg some (by kernel_rfl))
  f146 := Tryd.func36.trans (congrArg some (by kernel_rfl))
  f195 := Tryd.func87.trans (congrArg some (by kernel_rfl))
  f197 := Tryd.func88.trans (congrArg some (by kernel_rfl))
  f217 := Tryd.func83.trans (congrArg some (by kernel_rfl))
  f218 := Tryd.func89.trans (congrArg some (by kernel_rfl))
  f219 := Tryd.func58.trans (congrArg some (by kernel_rfl))
  f221 := Tryd.func48.trans (congrArg some (by kernel_rfl))
  f224 := Tryd.func85.trans (congrArg some (by kernel_rfl))
  f225 := Tryd.func84.trans (congrArg some (by kernel_rfl))
  f260 := Tryd.func104.trans (congrArg some (by kernel_rfl))
  f266 := Tryd.func102.trans (congrArg some (by kernel_rfl))
  f267 := Tryd.func86.trans (congrArg some (by kernel_rfl))
  f268 := Tryd.func59.trans (congrArg some (by kernel_rfl))
  f314 := Tryd.func103.trans (congrArg some (by kernel_rfl))
  t0 := Tryd.underlying0
  a0 := Tryd.isAgg0
  z0 := Tryd.sizeOf0
  v0 := Tryd.zeroValue0
  t3 := Tryd.underlying3
  a3 := Tryd.isAgg3
  z3 := Tryd.sizeOf3
  v3 := Tryd.zeroValue3
  t4 := Tryd.underlying4
  a4 := Tryd.isAgg4
  z4 := Tryd.sizeOf4
  v4 := Tryd.zeroValue4
  t5 := Tryd.underlying5
  a5 := Tryd.isAgg5
  z5 := Tryd.sizeOf5
  v5 := Tryd.zeroValue5
  t9 := Tryd.underlying9
  a9 := Tryd.isAgg9
  z9 := Tryd.sizeOf9
  v9 := Tryd.zeroValue9
  t21 := Tryd.underlying21
  a21 := Tryd.isAgg21
  z21 := Tryd.sizeOf21
  v21 := Tryd.zeroValue21
  t31 := Tryd.underlying46
  a31 := Tryd.isAgg46
  z31 := Tryd.sizeOf46
  v31 := Tryd.zeroValue46
  t46 := Tryd.underlying49
  a46 := Tryd.isAgg49
  z46 := Tryd.sizeOf49
  v46 := Tryd.zeroValue49
  t51 := Tryd.underlying22
  a51 := Tryd.isAgg22
  z51 := Tryd.sizeOf22
  v51 := Tryd.zeroValue22
  t105 := Tryd.underlying109
  a105 := Tryd.isAgg109
  z105 := Tryd.sizeOf109
  v105 := Tryd.zeroValue109
  t119 := Tryd.underlying135
  a119 := Tryd.isAgg135
  z119 := Tryd.sizeOf135
  t138 := Tryd.underlying137
  a138 := Tryd.isAgg137
  z138 := Tryd.sizeOf137
  v138 := Tryd.zeroValue137
  t139 := Tryd.underlying138
  a139 := Tryd.isAgg138
  z139 := Tryd.sizeOf138
  v139 := Tryd.zeroValue138
  t146 := Tryd.underlying126
  a146 := Tryd.isAgg126
  z146 := Tryd.sizeOf126
  v146 := Tryd.zeroValue126
  g1 := by kernel_rfl
  g3 := by kernel_rfl
  g4 := by kernel_rfl }
open Go.RowKit Go.Lib in
theorem Tryd.strings_Split (s sep : ByteArray) (m : Int) (w : World) (hs : s.size < 4294967281) (hm : w.cell? ⟨0, 0, none⟩ = some (.int .i64 m)) (h1 : 1 ≤ sep.size) :
    Calls Tryd.prog 36 #[.string s, .string sep] w fun e w' =>
      e = .returned (.slice (some ⟨w.heap.size, 0, none⟩) (Lib.countB s sep + 1) (Lib.countB s sep + 1)) ∧ w' = w.alloc (.cells ((Lib.splitB sep 0 (Lib.countB s sep) s).map Value.string).toArray 9) := Any.strings_Split Tryd.lays146 (by kernel_rfl) s sep m w hs hm h1
end Go.Proofs.YtllpenkgaomdfaaDoor.Vm
/- Contracts: texts of numbers, by the kit's contract of strconv.Itoa. -/
set_option linter.all false
namespace Go.Proofs.YtllpenkgaomdfaaDoor.Vm
open Go
set_option maxRecDepth 100000
set_option maxHeartbeats 4000000
theorem tabPow {st : Nat → Nat → Prop} {w : World} (h : Tabs.ok st w) : Lib.TabIs Tryd.prog w "internal/strconv.uint64pow10" .u64 Lib.pow10Tab := by
  obtain ⟨g, cs, k1, k2, k3, k4, k5⟩ := h "internal/strconv.uint64pow10" _ memPow
  subst k5
  exact k3
theorem known_of {fid : FuncId} {fn : Func} (hk : Known Tryd.prog fid fn) : ∃ fn, Tryd.prog.funcs[fid]? = some fn ∧ fn.body.isSome = true ∧ (fn.name == "runtime.NumGoroutine") = false := ⟨fn, hk.funcs, hk.body, hk.name⟩
theorem itoaR_c (n : Int) (h0 : -9223372036854775808 ≤ n) (h1 : n ≤ 9223372036854775807) : PureCall Tryd.prog F.strconv_Itoa [ai n] (.str (num n)) := by
  refine pure_of_calls (known_of K.strconv_Itoa) fun st w vals hlt htab hl hrel => ?_
  obtain ⟨v, rfl⟩ : ∃ v, vals = #[v] := by
    have : vals.size = 1 := hl.symm
    exact ⟨vals[0], by ext i hi hi'; omega; have : i = 0 := by omega
                       subst this; rfl⟩
  have hv := rel_int (hrel 0 _ v rfl rfl)
  subst hv
  refine (Tryd.strconv_Itoa n h0 h1 w (tabPow htab)).mono fun e w' ⟨he, k, os, hw⟩ => ?_
  subst hw
  exact ⟨_, he, Lib.below_grow _ w (Nat.le_refl _) k os, .str _⟩
theorem numC : NumC := fun n h0 h1 => itoaR_c n (by omega) (by omega)
end Go.Proofs.YtllpenkgaomdfaaDoor.Vm
/- Contracts: texts of segments; lists of strings. -/
set_option linter.all false
namespace Go.Proofs.YtllpenkgaomdfaaDoor.Vm
open Go Go.RowKit
set_option maxRecDepth 100000
set_option maxHeartbeats 4000000
theorem vals1 {vals : Array Value} (h : 1 = vals.size) : ∃ a, vals = #[a] := by
  refine ⟨vals[0], ?_⟩
  ext i hi hi'
  · simp; omega
  · have : i = 0 := by omega
    subst this; rfl
theorem vals2 {vals : Array Value} (h : 2 = vals.size) : ∃ a b, vals = #[a, b] := by
  refine ⟨vals[0], vals[1], ?_⟩
  ext i hi hi'
  · simp; omega
  · have : i = 0 ∨ i = 1 := by omega
    rcases this with rfl | rfl <;> rfl
/-- a list of strings, in memory -/
theorem strs_of {g : Gh} {w : World} {ws : List (List UInt8)} {v : Value} (h : Rel g w (asl (ws.map eStr)) v) (hs : ∀ b x, g.stab b x → b < w.heap.size) :
    (ws = [] ∧ ∃ a c, v = .slice a 0 c) ∨ ∃ b o cap, v = .slice (some ⟨b, o, none⟩) ws.length cap ∧ ws.length ≤ cap ∧ b < w.heap.size ∧ ∀ (j : Nat) x, ws[j]? = some x → w.cell? ⟨b, o + j, none⟩ = some (.string ⟨x.toArray⟩) := by
  rcases inv_sl h with ⟨h0, a, h1, h2, rfl⟩ | ⟨b, o, cap, vs, h0, h1, h2, h3, h4, h5, rfl⟩
  · exact .inl ⟨by simpa using h0, a, 0, rfl⟩
  · by_cases hw : ws = []
    · subst hw; exact .inl ⟨rfl, _, cap, rfl⟩
    · refine .inr ⟨b, o, cap, by rw [List.length_map], by simpa using h1, ?_, fun j x hj => ?_⟩
      · obtain ⟨x, r, rfl⟩ := List.exists_cons_of_ne_nil hw
        exact hs b _ (h5 0 [.str x] 0 rfl (Nat.zero_lt_one))
      · have hc : (ws.map eStr)[j]? = some [.str x] := by rw [List.getElem?_map, hj]; rfl
        obtain ⟨q1, q2⟩ := h4 j [.str x] 0 (.str x) hc rfl
        have := rel_str q2
        simp only [List.length_cons, List.length_nil, Nat.zero_add, Nat.mul_one, Nat.add_zero] at q1
        rw [q1, this]
theorem bytes_list (x : List UInt8) : (ByteArray.mk x.toArray).data.toList = x := by simp
theorem join_c (ws : List (List UInt8)) (sep : List UInt8) (hl : ws.length ≤ 140737488355328) (hj : (Lib.join ws sep).length ≤ 140737488355328) : PureCall Tryd.prog F.strings_Join [asl (ws.map eStr), .str sep] (.str (Lib.join ws sep)) := by
  refine pure_of_calls (known_of K.strings_Join) fun st w vals hlt htab hl2 hrel => ?_
  obtain ⟨a, b, rfl⟩ := vals2 hl2
  have hb := rel_str (hrel 1 _ b rfl rfl)
  subst hb
  rcases strs_of (hrel 0 _ a rfl rfl) hlt with ⟨rfl, p, c, rfl⟩ | ⟨bk, o, cap, rfl, h1, h2, h3⟩
  · refine (Tryd.strings_Join_none p c ⟨sep.toArray⟩ w).mono fun e w' ⟨he, hw⟩ => ?_
    subst hw
    exact ⟨_, he, Below.refl _ _, .str _⟩
  · have hm : (ws.map fun l => ByteArray.mk l.toArray).map (·.data.toList) = ws := by
      rw [List.map_map]; exact (List.map_congr_left fun x _ => bytes_list x).trans (List.map_id ws)
    have := Tryd.strings_Join bk o cap (ws.map fun l => ⟨l.toArray⟩) ⟨sep.toArray⟩ w (fun j x hx => by
      rw [List.getElem?_map] at hx
      cases hj : ws[j]? with
      | none => rw [hj] at hx; exact nomatch hx
      | some y => rw [hj] at hx; cases hx; exact h3 j y hj) h2 (by simpa using hl) (by simpa using h1) (by rw [hm, bytes_list]; exact hj)
    rw [hm, bytes_list, List.length_map] at this
    exact this.mono fun e w' ⟨he, hb⟩ => ⟨_, he, hb, .str _⟩
end Go.Proofs.YtllpenkgaomdfaaDoor.Vm
/- Contracts: texts of segments (the program's). -/
set_option linter.all false
namespace Go.Proofs.YtllpenkgaomdfaaDoor.Vm
open Go
set_option maxRecDepth 100000
set_option maxHeartbeats 4000000
theorem decDigits_digF : ∀ (k u : Nat), u < 10 ^ (k + 1) → Lib.decDigits u = digF (k + 1) u := by
  intro k
  induction k with
  | zero =>
    intro u h
    have h : u < 10 := by simpa using h
    rw [Lib.decDigits, dif_pos h, digF, if_pos h, dig, Nat.mod_eq_of_lt h]
  | succ k ih =>
    intro u h
    rw [Lib.decDigits]
    split
    · rename_i h'; rw [digF, if_pos h', dig, Nat.mod_eq_of_lt h']
    · rename_i h'
      rw [digF, if_neg h', ih (u / 10) (by rw [Nat.div_lt_iff_lt_mul (by decide)]; rw [Nat.pow_succ] at h; exact h), dig, Nat.mod_mod]
theorem num_number {n : Int} (h : i64 n) : num n = number n := by
  unfold i64 at h
  unfold num Lib.itoa number digits
  split
  · rw [show n.natAbs = (-n).toNat by omega, decDigits_digF 19 _ (by omega)]
  · rw [decDigits_digF 19 _ (by omega)]
theorem itoaN_c (n : Int) (h0 : 0 ≤ n) (h1 : n ≤ 999999999) : PureCall Tryd.prog F.strconv_Itoa [ai n] (.str (number n)) := by
  rw [← num_number (by unfold i64; omega)]
  exact numC n h0 (by omega)
def idxStr (l : List (List UInt8)) (x : List UInt8) : Int := match l.findIdx? fun y => decide (x = y) with
  | some i => i
  | none => -1
theorem idxStr_any (l : List (List UInt8)) (x : List UInt8) : decide (0 ≤ idxStr l x) = l.any fun y => decide (x = y) := by
  unfold idxStr
  cases hi : l.findIdx? fun y => decide (x = y) with
  | none =>
    rw [List.findIdx?_eq_none_iff] at hi
    symm; rw [show decide (0 ≤ (-1 : Int)) = false from rfl, List.any_eq_false]
    intro y hy
    simpa using hi y hy
  | some i =>
    rw [List.findIdx?_eq_some_iff_getElem] at hi
    obtain ⟨hil, h, _⟩ := hi
    show decide (0 ≤ (i : Int)) = _
    rw [show decide (0 ≤ (i : Int)) = true by simp]
    symm; rw [List.any_eq_true]
    exact ⟨l[i], List.getElem_mem hil, h⟩
theorem join_sp : ∀ l : List (List UInt8), Lib.join l [32] = joinSp l := by
  intro l
  induction l with
  | nil => rfl
  | cons x l ih =>
    cases l with
    | nil => simp [Lib.join, joinSp]
    | cons y l =>
      show _ = x ++ 32 :: joinSp (y :: l)
      rw [← ih]
      simp [Lib.join, List.intercalate, List.intersperse]
end Go.Proofs.YtllpenkgaomdfaaDoor.Vm
/- Contracts: strconv.Atoi, strings.IndexByte; numbers and their texts. -/
set_option linter.all false
namespace Go.Proofs.YtllpenkgaomdfaaDoor.Vm
open Go Go.RowKit
set_option maxRecDepth 100000
set_option maxHeartbeats 4000000
theorem cell_of_tab {st : Nat → Nat → Prop} {w : World} {n : String} {q : Array Value → Prop} {g : Nat} (h : Tabs.ok st w) (hm : (n, q) ∈ tabL) (hg : Tryd.prog.globalNamed n = some g) : ∃ cs, q cs ∧ ∀ o, w.cell? ⟨g, o, none⟩ = cs[o]? := by
  obtain ⟨g', cs, k1, k2, k3, k4, k5⟩ := h n q hm
  rw [hg] at k1; cases k1
  exact ⟨cs, k5, fun o => World.var?_cell hg k3 o⟩
/-- what strconv.Atoi gives -/
def atoiV (l : List UInt8) : Int := match Lib.atoiAll l with
  | .ok n => n
  | .syntax => 0
  | .range => Lib.atoiSat l
theorem atoiD_c (l : List UInt8) (hl : l.length ≤ 100000000) : PureCall Tryd.prog F.strconv_Atoi [.str l] (.tuple [ai (atoiV l), .dead]) := by
  refine pure_of_calls (known_of K.strconv_Atoi) fun st w vals hlt htab hl2 hrel => ?_
  obtain ⟨a, rfl⟩ := vals1 hl2
  have ha := rel_str (hrel 0 _ a rfl rfl)
  subst ha
  have hbl : (ByteArray.mk l.toArray).data.toList = l := bytes_list l
  have hsz : (ByteArray.mk l.toArray).size = l.length := by simp [ByteArray.size]
  have htup : ∀ (n : Int) (u : Value) (w' : World), Rel (stG st) w' (.tuple [ai n, .dead]) (.tuple #[.int .i64 n, u]) := fun n u w' => .tuple rfl fun i x v hx hv => by
    match i with
    | 0 => cases hx; cases hv; exact .int _ _
    | 1 => cases hx; exact .dead _
    | i + 2 => simp at hx
  cases hA : Lib.atoiAll l with
  | ok n =>
    refine (Tryd.strconv_Atoi_ok ⟨l.toArray⟩ (by rw [hsz]; omega) n (by rw [hbl]; exact hA) w).mono fun e w' ⟨he, hw⟩ => ⟨_, he, ?_, ?_⟩
    · rcases hw with rfl | ⟨t, rfl⟩
      · exact Below.refl _ _
      · exact Go.Joins.below_bytesWorld _ _ _ _ (Nat.le_refl _)
    · rw [atoiV, hA]; exact htup _ _ _
  | «syntax» =>
    obtain ⟨cs, ⟨te, pe, rfl⟩, hc⟩ := cell_of_tab (g := G.strconv_ErrSyntax) htab memSyn (by kernel_rfl)
    refine (Tryd.strconv_Atoi_syntax ⟨l.toArray⟩ (by rw [hsz]; omega) (by rw [hbl]; exact hA) _ w (hc 0) (.inr ⟨te, pe, rfl⟩)).mono fun e w' ⟨N, he, _, _, hw⟩ => ⟨_, he, hw, ?_⟩
    rw [atoiV, hA]; exact htup _ _ _
  | range =>
    obtain ⟨cs, ⟨te, pe, rfl⟩, hc⟩ := cell_of_tab (g := G.strconv_ErrRange) htab memRng (by kernel_rfl)
    refine (Tryd.strconv_Atoi_range ⟨l.toArray⟩ (by rw [hsz]; omega) (by rw [hbl]; exact hA) _ w (hc 0) (.inr ⟨te, pe, rfl⟩)).mono fun e w' ⟨N, he, _, _, hw⟩ => ⟨_, he, hw, ?_⟩
    rw [atoiV, hA]
    rw [hbl]
    exact htup _ _ _
theorem digitVal_dig {m : Nat} (h : m < 10) : Lib.digitVal (dig m) = some m := by
  rcases m with _ | _ | _ | _ | _ | _ | _ | _ | _ | _ | m <;> first | rfl | omega
theorem decFrom_snoc (b : UInt8) : ∀ (l : List UInt8) (acc : Nat), Lib.decFrom acc (l ++ [b]) = (Lib.decFrom acc l).bind fun n => (Lib.digitVal b).map fun d => n * 10 + d := by
  intro l
  induction l with
  | nil => intro acc; rw [List.nil_append]; unfold Lib.decFrom Lib.decFrom; cases Lib.digitVal b <;> rfl
  | cons c l ih =>
    intro acc
    rw [List.cons_append, Lib.decFrom, Lib.decFrom]
    cases Lib.digitVal c with
    | none => rfl
    | some d => exact ih _
theorem decFrom_digF : ∀ (k n : Nat), 1 ≤ k → n < 10 ^ k → Lib.decFrom 0 (digF k n) = some n := by
  intro k
  induction k with
  | zero => intro n h; omega
  | succ k ih =>
    intro n _ hn
    rw [digF]
    split
    · rename_i h
      have hd := digitVal_dig (m := n) h
      rw [show ([dig n] : List UInt8) = [] ++ [dig n] from rfl, decFrom_snoc, hd]
      show some (0 * 10 + n) = _
      rw [Nat.zero_mul, Nat.zero_add]
    · rename_i h
      have hk : 1 ≤ k := by
        rcases Nat.eq_zero_or_pos k with rfl | h'
        · simp at hn; omega
        · exact h'
      rw [decFrom_snoc, ih (n / 10) hk (by rw [Nat.pow_succ] at hn; omega), digitVal_dig (by omega)]
      show some (n / 10 * 10 + n % 10) = _
      congr 1; omega
theorem digF_ne (k n : Nat) : digF (k + 1) n ≠ [] := by
  rw [digF]; split <;> simp
theorem number_pos {n : Int} (h0 : 0 ≤ n) : number n = digF 20 n.toNat := by rw [number, if_neg (by omega)]; rfl
theorem number_len9 {n : Int} (h0 : 0 ≤ n) (h1 : n ≤ 999999999) : (number n).length ≤ 9 := by
  rw [← num_number (by unfold i64; omega)]
  unfold num Lib.itoa
  rw [if_neg (by omega)]
  exact decDigits_len 8 _ (by omega)
theorem atoi_of_dec {l : List UInt8} {n : Nat} (hne : l ≠ []) (h : Lib.decFrom 0 l = some n) : Lib.atoi l = some (n : Int) := by
  cases l with
  | nil => exact absurd rfl hne
  | cons b r =>
    have hb : ∃ d, Lib.digitVal b = some d := by
      rw [Lib.decFrom] at h
      cases hd : Lib.digitVal b with
      | none => rw [hd] at h; exact nomatch h
      | some d => exact ⟨d, rfl⟩
    obtain ⟨d, hd⟩ := hb
    have hr : 48 ≤ b.toNat := by
      unfold Lib.digitVal at hd
      split at hd
      · rename_i h'; exact h'.1
      · exact nomatch hd
    have h1 : (b == 45) = false := by
      rw [beq_eq_false_iff_ne]; intro e; subst e; exact absurd hr (by decide)
    have h2 : (b == 43) = false := by
      rw [beq_eq_false_iff_ne]; intro e; subst e; exact absurd hr (by decide)
    simp only [Lib.atoi, h1, h2, Bool.false_eq_true, if_false]
    rw [Lib.decNat, if_neg (by simp), h]; rfl
theorem atoiV_number {n : Int} (h0 : 0 ≤ n) (h1 : n ≤ 999999999) : atoiV (number n) = n := by
  have hl := number_len9 h0 h1
  have hd : Lib.decFrom 0 (number n) = some n.toNat := by rw [number_pos h0]; exact decFrom_digF 20 _ (by decide) (by omega)
  have ha := atoi_of_dec (by rw [number_pos h0]; exact digF_ne 19 _) hd
  rw [atoiV, Lib.atoiAll_short _ (by omega), ha]
  show (n.toNat : Int) = n
  omega
/-- what ref09.Value computes -/
def valF (v : Int) (l : List UInt8) : Int := l.foldl (fun v (c : UInt8) => 10 * v + (c.toNat : Int) - 48) v
theorem digit_toNat {b : UInt8} {d : Nat} (h : Lib.digitVal b = some d) : (b.toNat : Int) - 48 = d := by
  unfold Lib.digitVal at h
  split at h
  · cases h; omega
  · exact nomatch h
theorem valF_dec : ∀ (l : List UInt8) (acc n : Nat), Lib.decFrom acc l = some n → valF acc l = n := by
  intro l
  induction l with
  | nil => intro acc n h; cases h; rfl
  | cons b r ih =>
    intro acc n h
    rw [Lib.decFrom] at h
    cases hd : Lib.digitVal b with
    | none => rw [hd] at h; exact nomatch h
    | some d =>
      rw [hd] at h
      have := ih _ _ h
      rw [← this]
      show valF (10 * (acc : Int) + (b.toNat : Int) - 48) r = _
      have hb := digit_toNat hd
      congr 1
      rw [Int.natCast_add, Int.natCast_mul]; omega
theorem valueF_number {n : Int} (h0 : 0 ≤ n) (h1 : n ≤ 999999999) : valueF (number n) = n := by
  have hl := number_len9 h0 h1
  have hd : Lib.decFrom 0 (number n) = some n.toNat := by rw [number_pos h0]; exact decFrom_digF 20 _ (by decide) (by omega)
  have := valF_dec _ 0 _ hd
  rw [valueF, List.take_of_length_le hl]
  show valF 0 (number n) = n
  rw [show (0 : Int) = ((0 : Nat) : Int) from rfl, this]; omega
end Go.Proofs.YtllpenkgaomdfaaDoor.Vm
/- The self-check of the set 18; SegmentValid, SegmentEnds. -/
set_option linter.all false
namespace Go.Proofs.YtllpenkgaomdfaaDoor.Vm
open Go
set_option maxRecDepth 100000
set_option maxHeartbeats 4000000
def ex18 : Topology := ⟨2, [], [⟨0, 1, 1, 1, 0, 1, 0⟩]⟩
theorem endsL_len : ∀ (t : Topology) (l : List Segment) (n : Int), (endsL t n l).1.length ≤ l.length := by
  intro t l
  induction l with
  | nil => intro n; exact Nat.le_refl _
  | cons s l ih =>
    intro n
    rw [endsL]
    split
    · exact Nat.zero_le _
    · split
      · exact Nat.zero_le _
      · exact Nat.succ_le_succ (ih _)
theorem endsR_len (t : Topology) (l : List Segment) (n : Int) : (endsR t l n).1.length ≤ l.length := by
  unfold endsR; split
  · exact Nat.zero_le _
  · split
    · exact Nat.zero_le _
    · exact endsL_len t l n
end Go.Proofs.YtllpenkgaomdfaaDoor.Vm
/- SegmentText, SegmentParse. -/
set_option linter.all false
namespace Go.Proofs.YtllpenkgaomdfaaDoor.Vm
open Go
set_option maxRecDepth 100000
set_option maxHeartbeats 4000000
def lettersL : List UInt8 := [63, 110, 97, 103, 98]
def progP (l : List UInt8) : Segment × Int := match l with
  | c :: d :: r => if segText ⟨Lib.indexByte lettersL c, atoiV (d :: r)⟩ = c :: d :: r then (⟨Lib.indexByte lettersL c, atoiV (d :: r)⟩, 0) else (⟨0, 0⟩, 3)
  | _ => (⟨0, 0⟩, 3)
theorem segText_inv {x : Segment} {c : UInt8} {r : List UInt8} (h : segText x = c :: r) : (x.kind = 1 ∨ x.kind = 2 ∨ x.kind = 3 ∨ x.kind = 4) ∧ 0 ≤ x.num ∧ x.num ≤ 999999999 ∧ c = letter x.kind ∧ r = number x.num := by
  unfold segText at h
  split at h
  · rename_i hk
    injection h with h1 h2
    exact ⟨by omega, hk.2.2.1, hk.2.2.2, h1.symm, h2.symm⟩
  · exact nomatch h
theorem idx_letter {k : Int} (h : k = 1 ∨ k = 2 ∨ k = 3 ∨ k = 4) : Lib.indexByte lettersL (letter k) = k := by
  rcases h with rfl | rfl | rfl | rfl <;> decide +kernel
theorem segText_ok {k n : Int} (h : k = 1 ∨ k = 2 ∨ k = 3 ∨ k = 4) (h0 : 0 ≤ n) (h1 : n ≤ 999999999) : segText ⟨k, n⟩ = letter k :: number n := by
  rw [segText, if_pos ⟨by show 1 ≤ k; omega, by show k ≤ 4; omega, h0, h1⟩]
theorem letter_inj {j k : Int} (hj : j = 1 ∨ j = 2 ∨ j = 3 ∨ j = 4) (hk : k = 1 ∨ k = 2 ∨ k = 3 ∨ k = 4) (h : letter j = letter k) : j = k := by
  rw [← idx_letter hj, ← idx_letter hk, h]
/-- a text that is a segment's -/
theorem segParse_of {x : Segment} {c : UInt8} {r : List UInt8} (h : segText x = c :: r) : segParse (c :: r) = (x, 0) := by
  obtain ⟨hk, h0, h1, rfl, rfl⟩ := segText_inv h
  obtain ⟨k, n⟩ := x
  dsimp only at hk h0 h1 h ⊢
  have hv : valueF ((letter k :: number n).drop 1) = n := valueF_number h0 h1
  have hl : ¬ (letter k :: number n).length ≤ 1 := by
    have : number n ≠ [] := by rw [number_pos h0]; exact digF_ne 19 _
    have := List.length_pos_iff.2 this
    simp; omega
  rw [segParse, if_neg hl, hv]
  have hne : ∀ j, (j = 1 ∨ j = 2 ∨ j = 3 ∨ j = 4) → j ≠ k → ¬ segText ⟨j, n⟩ = letter k :: number n := fun j hj hjk e => by
    rw [segText_ok hj h0 h1] at e
    injection e with e1
    exact hjk (letter_inj hj hk e1)
  rcases hk with rfl | rfl | rfl | rfl
  · rw [if_pos h]
  · rw [if_neg (hne 1 (by omega) (by omega)), if_pos h]
  · rw [if_neg (hne 1 (by omega) (by omega)), if_neg (hne 2 (by omega) (by omega)), if_pos h]
  · rw [if_neg (hne 1 (by omega) (by omega)), if_neg (hne 2 (by omega) (by omega)), if_neg (hne 3 (by omega) (by omega)), if_pos h]
theorem segParse_ok {l : List UInt8} (h : (segParse l).2 = 0) : segText (segParse l).1 = l := by
  unfold segParse at h ⊢
  split at h
  · exact absurd h (by decide)
  · rename_i h1
    rw [if_neg h1]
    split at h
    · rename_i h2; rw [if_pos h2]; exact h2
    · rename_i h2
      rw [if_neg h2]
      split at h
      · rename_i h3; rw [if_pos h3]; exact h3
      · rename_i h3
        rw [if_neg h3]
        split at h
        · rename_i h4; rw [if_pos h4]; exact h4
        · rename_i h4
          rw [if_neg h4]
          split at h
          · rename_i h5; rw [if_pos h5]; exact h5
          · exact absurd h (by decide)
theorem segParse_two (l : List UInt8) : (segParse l).2 = 0 ∨ segParse l = (⟨0, 0⟩, 3) := by
  unfold segParse
  repeat' split
  all_goals first | exact .inl rfl | exact .inr rfl
theorem progP_eq (l : List UInt8) : progP l = segParse l := by
  cases l with
  | nil => rfl
  | cons c r =>
    cases r with
    | nil => rw [segParse, if_pos (by simp)]; rfl
    | cons d r =>
      rw [progP]
      split
      · rename_i h; rw [segParse_of h]
      · rename_i h
        rcases segParse_two (c :: d :: r) with h2 | h2
        · exfalso
          have h3 := segParse_ok h2
          generalize (segParse (c :: d :: r)).1 = x at h3
          obtain ⟨hk, h0, h1, e1, e2⟩ := segText_inv h3
          refine h ?_
          have q1 : Lib.indexByte lettersL c = x.kind := by rw [e1, idx_letter hk]
          have q2 : atoiV (d :: r) = x.num := by rw [e2, atoiV_number h0 h1]
          rw [q1, q2]
          exact h3
        · rw [h2]
end Go.Proofs.YtllpenkgaomdfaaDoor.Vm
/- Contracts: strings.Split at one byte; lists of segments. -/
set_option linter.all false
namespace Go.Proofs.YtllpenkgaomdfaaDoor.Vm
open Go Go.RowKit
set_option maxRecDepth 100000
set_option maxHeartbeats 4000000
/-- the parts of a text between its bytes e -/
def parts (e : UInt8) : List UInt8 → List (List UInt8)
  | [] => [[]]
  | c :: l => if c = e then [] :: parts e l else match parts e l with
    | [] => [[c]]
    | x :: r => (c :: x) :: r
theorem parts_ne (e : UInt8) (l : List UInt8) : parts e l ≠ [] := by
  cases l with
  | nil => simp [parts]
  | cons c l => unfold parts; split
                · simp
                · split <;> simp
theorem parts_none {e : UInt8} : ∀ {l : List UInt8}, (∀ c ∈ l, c ≠ e) → parts e l = [l] := by
  intro l
  induction l with
  | nil => intro _; rfl
  | cons c l ih =>
    intro h
    rw [parts, if_neg (h c (List.mem_cons_self ..)), ih fun x hx => h x (List.mem_cons_of_mem _ hx)]
theorem parts_hit {e : UInt8} (post : List UInt8) : ∀ {pre : List UInt8}, (∀ c ∈ pre, c ≠ e) → parts e (pre ++ e :: post) = pre :: parts e post := by
  intro pre
  induction pre with
  | nil => intro _; rw [List.nil_append, parts, if_pos rfl]
  | cons c l ih =>
    intro h
    rw [List.cons_append, parts, if_neg (h c (List.mem_cons_self ..)), ih fun x hx => h x (List.mem_cons_of_mem _ hx)]
theorem split_parts (e : UInt8) : ∀ (n : Nat) (l : List UInt8), l.length ≤ n → ∀ fuel, l.length < fuel → Lib.splitK [e] 0 (Lib.countFrom [e] fuel l) l = parts e l := by
  intro n
  induction n with
  | zero =>
    intro l hl fuel hf
    have : l = [] := List.eq_nil_of_length_eq_zero (by omega)
    subst this
    obtain ⟨f, rfl⟩ : ∃ f, fuel = f + 1 := ⟨fuel - 1, by omega⟩
    rfl
  | succ n ih =>
    intro l hl fuel hf
    obtain ⟨f, rfl⟩ : ∃ f, fuel = f + 1 := ⟨fuel - 1, by omega⟩
    have hix := Lib.index_one l e
    rw [Lib.countFrom]
    by_cases h : Lib.indexByte l e = -1
    · rw [hix, h, if_pos (by decide)]
      rw [Lib.splitK, parts_none]
      intro c hc
      obtain ⟨k, hk⟩ := List.getElem?_of_mem hc
      intro e1; subst e1
      exact Lib.indexByte_none h k hk
    · have hge := Lib.indexByte_ge l e
      obtain ⟨o, ho⟩ : ∃ o : Nat, Lib.indexByte l e = o := ⟨(Lib.indexByte l e).toNat, by omega⟩
      obtain ⟨h1, h2⟩ := Lib.indexByte_some ho
      obtain ⟨hlt, h1⟩ := List.getElem?_eq_some_iff.1 h1
      rw [hix, ho, if_neg (by simp)]
      have hd : l = l.take o ++ e :: l.drop (o + 1) := by rw [← h1, List.getElem_cons_drop_succ_eq_drop, List.take_append_drop]
      rw [Nat.add_comm 1, Lib.splitK, hix, ho, if_neg (by simp)]
      have e1 : (o : Int).toNat = o := by omega
      rw [e1, Nat.add_zero]
      show l.take o :: Lib.splitK [e] 0 (Lib.countFrom [e] f (l.drop (o + 1))) (l.drop (o + 1)) = _
      rw [ih (l.drop (o + 1)) (by rw [List.length_drop]; omega) f (by rw [List.length_drop]; omega)]
      conv => rhs; rw [hd]
      rw [parts_hit]
      intro c hc
      obtain ⟨k, hk⟩ := List.getElem?_of_mem hc
      intro e2; subst e2
      rw [List.getElem?_take] at hk
      split at hk
      · exact h2 k (by assumption) hk
      · exact nomatch hk
theorem parts_count (e : UInt8) (l : List UInt8) : (parts e l).length ≤ l.length + 1 := by
  induction l with
  | nil => exact Nat.le_refl _
  | cons c l ih =>
    unfold parts
    split
    · simp; omega
    · split
      · simp
      · rename_i x r hx; rw [hx] at ih; simp at ih ⊢; omega
/-- strings that were made -/
theorem strs_new {w w' : World} {xs : List (List UInt8)} {t : TypeId} {p : Nat × Nat} {b : Nat} (h : w'.heap[b]? = some (.cells (xs.map fun l => Value.string ⟨l.toArray⟩).toArray t p)) (hb : w.heap.size ≤ b) :
    Rel (stG fun b _ => w.heap.size ≤ b ∧ b < w'.heap.size) w' (.sl none false (xs.map eStr)) (.slice (some ⟨b, 0, none⟩) xs.length xs.length) := by
  have hlt : b < w'.heap.size := by
    rcases Nat.lt_or_ge b w'.heap.size with h' | h'
    · exact h'
    · rw [Array.getElem?_eq_none h'] at h; exact nomatch h
  have hl : (xs.map eStr).length = xs.length := List.length_map ..
  rw [← hl]
  refine .sl (fun i _ => .string ⟨(xs.getD i []).toArray⟩) (by simp) (Nat.le_refl _) (fun h => nomatch h) (fun c hc x hx => ?_) (fun i c j x hi hj => ?_) (fun i c j x hi hj => ?_) (fun i c j hi hj => ⟨hb, hlt⟩)
  · obtain ⟨y, -, rfl⟩ := List.mem_map.1 hc
    simp [eStr] at hx; subst hx; rfl
  all_goals
    rw [List.getElem?_map] at hi
    cases hy : xs[i]? with
    | none => rw [hy] at hi; exact nomatch hi
    | some y =>
      rw [hy] at hi; cases hi
      have hj0 : j = 0 := by
        rcases j with _ | j
        · rfl
        · simp [eStr] at hj
      subst hj0
      have hgd : xs.getD i [] = y := by rw [List.getD_eq_getElem?_getD, hy]; rfl
      rw [hgd]
      first
        | (simp only [World.cell?, h, eStr, List.length_cons, List.length_nil, Nat.zero_add, Nat.mul_one, Nat.add_zero]
           simp [hy]; done)
        | (cases hj; exact .str _)
theorem split_c (l : List UInt8) (e : UInt8) (hl : l.length ≤ 100000000) : PureCall Tryd.prog F.strings_Split [.str l, .str [e]] (asl ((parts e l).map eStr)) := by
  refine (new_of_calls rfl (known_of K.strings_Split) fun st w vals hlt htab hl2 hrel => ?_).pure rfl
  obtain ⟨a, b, rfl⟩ := vals2 hl2
  have ha := rel_str (hrel 0 _ a rfl rfl)
  have hb := rel_str (hrel 1 _ b rfl rfl)
  subst ha; subst hb
  obtain ⟨cs, ⟨m, rfl⟩, hc⟩ := cell_of_tab (g := G.internal_bytealg_MaxLen) htab memLen (by kernel_rfl)
  have hsz : (ByteArray.mk l.toArray).size = l.length := by simp [ByteArray.size]
  refine (Tryd.strings_Split ⟨l.toArray⟩ ⟨[e].toArray⟩ m w (by rw [hsz]; omega) (hc 0) (Nat.le_refl 1)).mono fun e1 w' ⟨he, hw⟩ => ⟨_, he, ?_, ?_⟩
  · subst hw; exact (Below.refl _ _).alloc (Nat.le_refl _) _
  · have hx : Lib.splitB ⟨[e].toArray⟩ 0 (Lib.countB ⟨l.toArray⟩ ⟨[e].toArray⟩) ⟨l.toArray⟩ = (parts e l).map fun x => ⟨x.toArray⟩ := by
      have h1 := Lib.splitB_data ⟨[e].toArray⟩ 0 (Lib.countB ⟨l.toArray⟩ ⟨[e].toArray⟩) ⟨l.toArray⟩
      rw [bytes_list, bytes_list] at h1
      have h2 : Lib.countB ⟨l.toArray⟩ ⟨[e].toArray⟩ = Lib.countFrom [e] (l.length + 1) l := by
        unfold Lib.countB Lib.count
        rw [bytes_list, bytes_list]
      rw [h2] at h1 ⊢
      rw [split_parts e l.length l (Nat.le_refl _) (l.length + 1) (Nat.lt_succ_self _)] at h1
      rw [← h1, List.map_map]
      conv => lhs; rw [← List.map_id (Lib.splitB ⟨[e].toArray⟩ 0 (Lib.countFrom [e] (l.length + 1) l) ⟨l.toArray⟩)]
      exact List.map_congr_left fun x _ => by simp
    have hn : Lib.countB ⟨l.toArray⟩ ⟨[e].toArray⟩ + 1 = (parts e l).length := by
      have := congrArg List.length hx
      rw [List.length_map, Lib.splitB_all ⟨[e].toArray⟩ (Nat.le_refl 1) 0 _ _ rfl] at this
      exact this
    rw [hn]
    subst hw
    rw [hx, List.map_map]
    exact strs_new (w := w) (by simp only [World.alloc, Array.getElem?_push, if_true]; rfl) (Nat.le_refl _)
end Go.Proofs.YtllpenkgaomdfaaDoor.Vm
/- Prefixes: numbers, texts (plain laws). -/
set_option linter.all false
namespace Go.Proofs.YtllpenkgaomdfaaDoor.Vm
open Go Go.RowKit
set_option maxRecDepth 100000
set_option maxHeartbeats 4000000
structure Pfx where
  addr : Nat
  len : Int
deriving DecidableEq
def Pfx.enc (p : Pfx) : List AV := [.int .u32 (p.addr : Int), .int .i64 p.len]
/-- the first n bits of an address -/
def mk (a n : Nat) : Nat := a / 2 ^ (32 - n) * 2 ^ (32 - n)
def pv (p : Pfx) : Bool := decide (0 ≤ p.len) && (decide (p.len ≤ 32) && decide ((mk p.addr p.len.toNat : Int) = p.addr))
theorem pv_iff {p : Pfx} : pv p = true ↔ 0 ≤ p.len ∧ p.len ≤ 32 ∧ mk p.addr p.len.toNat = p.addr := by
  unfold pv; simp only [Bool.and_eq_true, decide_eq_true_eq]
  constructor
  · rintro ⟨h1, h2, h3⟩; exact ⟨h1, h2, by omega⟩
  · rintro ⟨h1, h2, h3⟩; exact ⟨h1, h2, by omega⟩
theorem nat_and_high (x k : Nat) (hk : k ≤ 32) (hx : x < 2 ^ 32) : x &&& (2 ^ 32 - 2 ^ k) = x / 2 ^ k * 2 ^ k := by
  have h1 : 2 ^ 32 - 2 ^ k = (2 ^ (32 - k) - 1) <<< k := by
    rw [Nat.shiftLeft_eq, Nat.sub_mul, ← Nat.pow_add, Nat.sub_add_cancel hk, Nat.one_mul]
  have h2 : x / 2 ^ k * 2 ^ k = (x >>> k) <<< k := by rw [Nat.shiftLeft_eq, Nat.shiftRight_eq_div_pow]
  rw [h1, h2]
  apply Nat.eq_of_testBit_eq
  intro i
  rw [Nat.testBit_and, Nat.testBit_shiftLeft, Nat.testBit_shiftLeft, Nat.testBit_two_pow_sub_one, Nat.testBit_shiftRight]
  by_cases h : i ≥ k
  · rw [show k + (i - k) = i by omega]
    by_cases h3 : i < 32
    · simp [h]; omega
    · have : x.testBit i = false := Nat.testBit_lt_two_pow (Nat.lt_of_lt_of_le hx (Nat.pow_le_pow_right (by decide) (by omega)))
      simp [this]
  · simp [h]
theorem nat_or_bit (i : Nat) (h : i < 32) : (2 ^ 32 - 2 ^ (32 - i)) ||| 2 ^ (31 - i) = 2 ^ 32 - 2 ^ (31 - i) := by
  have : ∀ i : Fin 32, (2 ^ 32 - 2 ^ (32 - i.1)) ||| 2 ^ (31 - i.1) = 2 ^ 32 - 2 ^ (31 - i.1) := by decide +kernel
  exact this ⟨i, h⟩
theorem two_le (n : Nat) : 2 ^ (32 - n) ≤ 2 ^ 32 := Nat.pow_le_pow_right (by decide) (by omega)
theorem two_pos (n : Nat) : 0 < 2 ^ n := Nat.pow_pos (by decide)
theorem mk_le (a n : Nat) : mk a n ≤ a := Nat.div_mul_le_self _ _
/-- of fewer bits -/
theorem mk_mk {a m n : Nat} (h : m ≤ n) (hn : n ≤ 32) : mk (mk a n) m = mk a m := by
  unfold mk
  have e : 2 ^ (32 - m) = 2 ^ (32 - n) * 2 ^ (n - m) := by rw [← Nat.pow_add]; congr 1; omega
  rw [e, ← Nat.div_div_eq_div_mul, ← Nat.div_div_eq_div_mul, Nat.mul_div_cancel _ (two_pos _)]
theorem mk_km {a m n : Nat} (h : m ≤ n) (hn : n ≤ 32) : mk (mk a m) n = mk a m := by
  unfold mk
  have e : 2 ^ (32 - m) = 2 ^ (n - m) * 2 ^ (32 - n) := by rw [← Nat.pow_add]; congr 1; omega
  generalize a / 2 ^ (32 - m) = q
  rw [e, ← Nat.mul_assoc, Nat.mul_div_cancel _ (two_pos _)]
/-- the upper half -/
theorem hi_or {a n : Nat} (h : n < 32) (ha : mk a n = a) : a ||| 2 ^ (31 - n) = a + 2 ^ (31 - n) := by
  unfold mk at ha
  have e : 2 ^ (32 - n) = 2 ^ (31 - n + 1) := by congr 1; omega
  rw [e] at ha
  generalize a / 2 ^ (31 - n + 1) = q at ha
  rw [← ha, Nat.mul_comm, Nat.two_pow_add_eq_or_of_lt]
  exact Nat.pow_lt_pow_right (by decide) (by omega)
theorem hi_mk {a n : Nat} (h : n < 32) (ha : mk a n = a) : mk (a + 2 ^ (31 - n)) (n + 1) = a + 2 ^ (31 - n) ∧ mk (a + 2 ^ (31 - n)) n = a := by
  unfold mk at ha ⊢
  have e : 2 ^ (32 - n) = 2 * 2 ^ (31 - n) := by rw [← Nat.pow_succ']; congr 1; omega
  rw [show 32 - (n + 1) = 31 - n by omega]
  rw [e] at ha ⊢
  have hp := two_pos (31 - n)
  generalize 2 ^ (31 - n) = k at ha hp ⊢
  generalize a / (2 * k) = q at ha
  have e2 : a + k = (2 * q + 1) * k := by rw [← ha, Nat.add_mul, Nat.one_mul, Nat.mul_assoc, Nat.mul_left_comm]
  constructor
  · rw [e2, Nat.mul_div_cancel _ hp]
  · have : (a + k) / (2 * k) = q := by
      rw [e2, Nat.mul_comm 2 k, ← Nat.div_div_eq_div_mul, Nat.mul_div_cancel _ hp]; omega
    rw [this, ha]
theorem lo_mk {a n : Nat} (h : n < 32) (ha : mk a n = a) : mk a (n + 1) = a := by
  have := mk_km (a := a) (m := n) (n := n + 1) (by omega) (by omega)
  rwa [ha] at this
theorem hi_lt {a n : Nat} (h : n < 32) (ha : mk a n = a) (hx : a < 2 ^ 32) : a + 2 ^ (31 - n) < 2 ^ 32 := by
  rw [← hi_or h ha]
  exact Nat.or_lt_two_pow hx (Nat.pow_lt_pow_right (by decide) (by omega))
/-- one of the four numbers of an address -/
def oct (a k : Nat) : Nat := a / 2 ^ k % 256
theorem oct_lt (a k : Nat) : oct a k < 256 := Nat.mod_lt _ (by decide)
def pfxText (p : Pfx) : List UInt8 := if pv p then number (oct p.addr 24) ++ 46 :: (number (oct p.addr 16) ++ 46 :: (number (oct p.addr 8) ++ 46 :: (number (oct p.addr 0) ++ 47 :: number p.len))) else []
/-- the next number of an address -/
def addrStep (a : Nat) (n : Int) : Nat := (a * 256) % 2 ^ 32 ||| (n % 256).toNat
def addrOf (ns : List Int) : Nat := ns.foldl addrStep 0
theorem addrStep_lt (a : Nat) (n : Int) : addrStep a n < 2 ^ 32 := Nat.or_lt_two_pow (Nat.mod_lt _ (by decide)) (by omega)
theorem addrOf_lt (ns : List Int) : addrOf ns < 2 ^ 32 := by
  unfold addrOf
  rw [← List.reverse_reverse ns]
  cases ns.reverse with
  | nil => decide
  | cons n r => rw [List.reverse_cons, List.foldl_append]; exact addrStep_lt _ _
theorem addrStep_nat {a n : Nat} (ha : a < 2 ^ 24) (hn : n < 256) : addrStep a (n : Int) = a * 256 + n := by
  unfold addrStep
  rw [show ((n : Int) % 256).toNat = n by omega, Nat.mod_eq_of_lt (by omega), Nat.mul_comm, show (256 : Nat) = 2 ^ 8 from rfl, ← Nat.two_pow_add_eq_or_of_lt (by omega)]
theorem addrOf_oct {a : Nat} (ha : a < 2 ^ 32) : addrOf [oct a 24, oct a 16, oct a 8, oct a 0] = a := by
  have h3 := oct_lt a 24
  have h2 := oct_lt a 16
  have h1 := oct_lt a 8
  have h0 := oct_lt a 0
  show addrStep (addrStep (addrStep (addrStep 0 (oct a 24)) (oct a 16)) (oct a 8)) (oct a 0) = a
  rw [addrStep_nat (a := 0) (by decide) h3, addrStep_nat (by omega) h2, addrStep_nat (by omega) h1, addrStep_nat (by omega) h0]
  unfold oct
  omega
/-- the digits of a number -/
theorem digF_in : ∀ (k n : Nat), ∀ c ∈ digF k n, 48 ≤ c.toNat ∧ c.toNat ≤ 57 := by
  have hd : ∀ n, 48 ≤ (dig n).toNat ∧ (dig n).toNat ≤ 57 := fun n => by
    unfold dig
    have h : n % 10 < 10 := Nat.mod_lt _ (by decide)
    generalize n % 10 = m at h
    rcases m with _ | _ | _ | _ | _ | _ | _ | _ | _ | _ | m <;> first | decide | omega
  intro k
  induction k with
  | zero => intro n c h; exact nomatch h
  | succ k ih =>
    intro n c h
    rw [digF] at h
    split at h
    · simp at h; subst h; exact hd _
    · simp at h
      rcases h with h | h
      · exact ih _ c h
      · subst h; exact hd _
theorem number_in (n : Nat) : ∀ c ∈ number (n : Int), 48 ≤ c.toNat ∧ c.toNat ≤ 57 := by
  rw [number_pos (by omega)]; exact digF_in _ _
theorem number_nd (n : Nat) : ∀ c ∈ number (n : Int), c ≠ 46 := fun c h e => by have := number_in n c h; subst e; exact absurd this.1 (by decide)
theorem digF_short : ∀ (k j n : Nat), j ≤ k → 1 ≤ j → n < 10 ^ j → (digF k n).length ≤ j := by
  intro k
  induction k with
  | zero => intro j n h1 h2; omega
  | succ k ih =>
    intro j n h1 h2 h3
    rw [digF]
    split
    · simpa using h2
    · rename_i h
      obtain ⟨i, rfl⟩ : ∃ i, j = i + 1 := ⟨j - 1, by omega⟩
      have hi : 1 ≤ i := by
        rcases Nat.eq_zero_or_pos i with rfl | h'
        · simp at h3; omega
        · exact h'
      have := ih i (n / 10) (by omega) hi (by rw [Nat.pow_succ] at h3; omega)
      simp; omega
theorem digF_fuel : ∀ {k j n : Nat}, 1 ≤ k → 1 ≤ j → n < 10 ^ k → n < 10 ^ j → digF k n = digF j n := by
  intro k
  induction k with
  | zero => intro j n h; omega
  | succ k ih =>
    intro j n _ h2 h3 h4
    obtain ⟨i, rfl⟩ : ∃ i, j = i + 1 := ⟨j - 1, by omega⟩
    rw [digF, digF]
    split
    · rfl
    · rename_i h
      have hk : 1 ≤ k := by
        rcases Nat.eq_zero_or_pos k with rfl | h'
        · simp at h3; omega
        · exact h'
      have hi : 1 ≤ i := by
        rcases Nat.eq_zero_or_pos i with rfl | h'
        · simp at h4; omega
        · exact h'
      rw [ih hk hi (by rw [Nat.pow_succ] at h3; omega) (by rw [Nat.pow_succ] at h4; omega)]
theorem number_short {n j : Nat} (h1 : 1 ≤ j) (hj : j ≤ 20) (h : n < 10 ^ j) : (number (n : Int)).length ≤ j := by
  rw [number_pos (by omega)]; exact digF_short 20 j _ hj h1 (by simpa using h)
theorem pfxText_len (p : Pfx) : (pfxText p).length ≤ 18 := by
  unfold pfxText
  split
  · rename_i h
    obtain ⟨h1, h2, h3⟩ := pv_iff.1 h
    have k3 := number_short (n := oct p.addr 24) (j := 3) (by decide) (by decide) (Nat.lt_of_lt_of_le (oct_lt _ _) (by decide))
    have k2 := number_short (n := oct p.addr 16) (j := 3) (by decide) (by decide) (Nat.lt_of_lt_of_le (oct_lt _ _) (by decide))
    have k1 := number_short (n := oct p.addr 8) (j := 3) (by decide) (by decide) (Nat.lt_of_lt_of_le (oct_lt _ _) (by decide))
    have k0 := number_short (n := oct p.addr 0) (j := 3) (by decide) (by decide) (Nat.lt_of_lt_of_le (oct_lt _ _) (by decide))
    have kl := number_short (n := p.len.toNat) (j := 2) (by decide) (by decide) (by omega)
    rw [show ((p.len.toNat : Nat) : Int) = p.len by omega] at kl
    simp only [List.length_append, List.length_cons]
    omega
  · simp
theorem parts_len (e : UInt8) : ∀ (l : List UInt8), ∀ x ∈ parts e l, x.length ≤ l.length := by
  intro l
  induction l with
  | nil => intro x h; simp [parts] at h; subst h; exact Nat.le_refl _
  | cons c l ih =>
    intro x h
    unfold parts at h
    split at h
    · rcases List.mem_cons.1 h with rfl | h
      · exact Nat.zero_le _
      · have := ih x h; simp; omega
    · split at h
      · simp at h; subst h; simp
      · rename_i y r hy
        rw [hy] at ih
        rcases List.mem_cons.1 h with rfl | h
        · have := ih y (List.mem_cons_self ..); simp; omega
        · have := ih x (List.mem_cons_of_mem _ h); simp; omega
/-- what the parts of a text say -/
def cand (l : List UInt8) : Pfx := ⟨addrOf ((parts 46 (Lib.cut l [47]).1).map atoiV), atoiV (Lib.cut l [47]).2.1⟩
theorem indexByte_pre1 (e : UInt8) (post : List UInt8) : ∀ pre : List UInt8, (∀ c ∈ pre, c ≠ e) → Lib.indexByte (pre ++ e :: post) e = pre.length := by
  intro pre
  induction pre with
  | nil => intro _; rw [List.nil_append, Lib.indexByte, if_pos (by simp)]; rfl
  | cons c pre ih =>
    intro h
    have hc := h c (List.mem_cons_self ..)
    have := ih fun x hx => h x (List.mem_cons_of_mem _ hx)
    rw [List.cons_append, Lib.indexByte, if_neg (by simpa using hc), this, if_neg (by simp)]
    simp
theorem cut_pre1 (e : UInt8) (post : List UInt8) {pre : List UInt8} (h : ∀ c ∈ pre, c ≠ e) : Lib.cut (pre ++ e :: post) [e] = (pre, post, true) := by
  have hi : Lib.index (pre ++ e :: post) [e] = pre.length := by rw [Lib.index_one, indexByte_pre1 e post pre h]
  unfold Lib.cut
  rw [hi, if_pos (by omega)]
  have e' : ((pre.length : Nat) : Int).toNat = pre.length := by omega
  rw [e', List.take_left, List.drop_append]
  simp
theorem cand_text {p : Pfx} (h : pv p = true) (ha : p.addr < 2 ^ 32) : cand (pfxText p) = p := by
  obtain ⟨h1, h2, h3⟩ := pv_iff.1 h
  have k3 := oct_lt p.addr 24
  have k2 := oct_lt p.addr 16
  have k1 := oct_lt p.addr 8
  have k0 := oct_lt p.addr 0
  have ht : pfxText p = (number (oct p.addr 24) ++ 46 :: (number (oct p.addr 16) ++ 46 :: (number (oct p.addr 8) ++ 46 :: number (oct p.addr 0)))) ++ 47 :: number p.len := by
    rw [pfxText, if_pos h]; simp
  have hc : Lib.cut (pfxText p) [47] = (number (oct p.addr 24) ++ 46 :: (number (oct p.addr 16) ++ 46 :: (number (oct p.addr 8) ++ 46 :: number (oct p.addr 0))), number p.len, true) := by
    rw [ht, cut_pre1]
    intro c hc e
    subst e
    have hn : ∀ n : Nat, (47 : UInt8) ∈ number (n : Int) → False := fun n hn => absurd (number_in n _ hn).1 (by decide)
    simp only [List.mem_append, List.mem_cons] at hc
    rcases hc with hc | hc | hc | hc | hc | hc | hc
    all_goals first | exact hn _ hc | exact absurd hc (by decide)
  unfold cand
  rw [hc]
  dsimp only
  rw [parts_hit _ (number_nd _), parts_hit _ (number_nd _), parts_hit _ (number_nd _), parts_none (number_nd _)]
  simp only [List.map_cons, List.map_nil]
  rw [atoiV_number (by omega) (by omega), atoiV_number (by omega) (by omega), atoiV_number (by omega) (by omega), atoiV_number (by omega) (by omega), atoiV_number (by omega) (by omega), addrOf_oct ha]
theorem cand_lt (l : List UInt8) : (cand l).addr < 2 ^ 32 := addrOf_lt _
/-- the prefix with a text -/
def pfxParse (l : List UInt8) : Pfx × Int := if l ≠ [] ∧ pfxText (cand l) = l then (cand l, 0) else (⟨0, 0⟩, 3)
theorem pfxParse_of {p : Pfx} (h : pv p = true) (ha : p.addr < 2 ^ 32) : pfxParse (pfxText p) = (p, 0) := by
  have hne : pfxText p ≠ [] := by
    rw [pfxText, if_pos h]
    intro e
    have := congrArg List.length e
    simp at this
  rw [pfxParse, cand_text h ha, if_pos ⟨hne, rfl⟩]
theorem pv_of_text {p : Pfx} {l : List UInt8} (h : pfxText p = l) (hl : l ≠ []) : pv p = true := by
  unfold pfxText at h
  split at h
  · assumption
  · exact absurd h.symm hl
theorem pfxParse_ok {l : List UInt8} (h : (pfxParse l).2 = 0) : pfxText (pfxParse l).1 = l ∧ pv (pfxParse l).1 = true ∧ (pfxParse l).1.addr < 2 ^ 32 := by
  unfold pfxParse at h ⊢
  split at h
  · rename_i h1
    rw [if_pos h1]
    exact ⟨h1.2, pv_of_text h1.2 h1.1, cand_lt l⟩
  · exact absurd h (by decide)
/-- another way to guess a prefix -/
theorem pfxParse_by {l : List UInt8} {q : Pfx} (hq : q.addr < 2 ^ 32) (hc : ∀ p : Pfx, pv p = true → p.addr < 2 ^ 32 → pfxText p = l → q = p) : pfxParse l = if l ≠ [] ∧ pfxText q = l then (q, 0) else (⟨0, 0⟩, 3) := by
  by_cases h : l ≠ [] ∧ pfxText q = l
  · rw [if_pos h]
    have := pfxParse_of (pv_of_text h.2 h.1) hq
    rwa [h.2] at this
  · rw [if_neg h, pfxParse, if_neg]
    rintro ⟨h1, h2⟩
    have := hc (cand l) (pv_of_text h2 h1) (cand_lt l) h2
    rw [this] at h
    exact h ⟨h1, h2⟩
/-- the reference reads digit by digit -/
def refS (s : List Int × Nat) (c : UInt8) : List Int × Nat :=
  if 48 ≤ c.toNat ∧ c.toNat ≤ 57 then (s.1.set s.2 (IntKind.i64.wrap (IntKind.i64.wrap (s.1.getD s.2 0 * 10) + ((c.toNat : Int) - 48))), s.2) else if s.2 < 4 then (s.1, s.2 + 1) else s
def refF (l : List UInt8) : List Int × Nat := (l.take 20).foldl refS ([0, 0, 0, 0, 0], 0)
theorem decFrom_ge : ∀ (l : List UInt8) (acc n : Nat), Lib.decFrom acc l = some n → acc ≤ n := by
  intro l
  induction l with
  | nil => intro acc n h; cases h; exact Nat.le_refl _
  | cons b r ih =>
    intro acc n h
    rw [Lib.decFrom] at h
    cases hd : Lib.digitVal b with
    | none => rw [hd] at h; exact nomatch h
    | some d => rw [hd] at h; have := ih _ _ h; omega
theorem refS_digits {k : Nat} : ∀ (l : List UInt8) (ns : List Int) (acc n : Nat), Lib.decFrom acc l = some n → n ≤ 1000000 → ns[k]? = some (acc : Int) → l.foldl refS (ns, k) = (ns.set k (n : Int), k) := by
  intro l
  induction l with
  | nil =>
    intro ns acc n h hn hk
    cases h
    obtain ⟨h1, h2⟩ := List.getElem?_eq_some_iff.1 hk
    rw [List.foldl_nil, ← h2, List.set_getElem_self]
  | cons b r ih =>
    intro ns acc n h hn hk
    rw [Lib.decFrom] at h
    cases hd : Lib.digitVal b with
    | none => rw [hd] at h; exact nomatch h
    | some d =>
      rw [hd] at h
      have hb := digit_toNat hd
      have hr : 48 ≤ b.toNat ∧ b.toNat ≤ 57 := by
        unfold Lib.digitVal at hd
        split at hd
        · rename_i h'; exact h'
        · exact nomatch hd
      have hge := decFrom_ge _ _ _ h
      have hs : refS (ns, k) b = (ns.set k ((acc * 10 + d : Nat) : Int), k) := by
        rw [refS, if_pos hr]
        dsimp only
        rw [List.getD_eq_getElem?_getD, hk]
        show (ns.set k (IntKind.i64.wrap (IntKind.i64.wrap ((acc : Int) * 10) + ((b.toNat : Int) - 48))), k) = _
        rw [wrap_in (n := (acc : Int) * 10) (by omega), wrap_in (by omega), hb]
        congr 2
      obtain ⟨h1, h2⟩ := List.getElem?_eq_some_iff.1 hk
      rw [List.foldl_cons, hs, ih _ _ _ h hn (by rw [List.getElem?_set_self h1]), List.set_set]
theorem refS_number {k n : Nat} {ns : List Int} (hn : n ≤ 1000000) (hk : ns[k]? = some 0) : (number (n : Int)).foldl refS (ns, k) = (ns.set k (n : Int), k) := by
  refine refS_digits _ ns 0 n ?_ hn hk
  rw [number_pos (by omega)]
  have := decFrom_digF 20 n (by decide) (by omega)
  simpa using this
def rcand (l : List UInt8) : Pfx := ⟨addrOf ((refF l).1.take 4), (refF l).1.getD 4 0⟩
theorem rcand_text {p : Pfx} (h : pv p = true) (ha : p.addr < 2 ^ 32) : rcand (pfxText p) = p := by
  obtain ⟨h1, h2, h3⟩ := pv_iff.1 h
  have k3 := oct_lt p.addr 24
  have k2 := oct_lt p.addr 16
  have k1 := oct_lt p.addr 8
  have k0 := oct_lt p.addr 0
  have hl := pfxText_len p
  have hf : refF (pfxText p) = ([(oct p.addr 24 : Int), (oct p.addr 16 : Int), (oct p.addr 8 : Int), (oct p.addr 0 : Int), p.len], 4) := by
    rw [refF, List.take_of_length_le (by omega), pfxText, if_pos h]
    rw [show p.len = ((p.len.toNat : Nat) : Int) by omega]
    simp only [List.foldl_append, List.foldl_cons]
    rw [refS_number (k := 0) (n := oct p.addr 24) (ns := [0, 0, 0, 0, 0]) (by omega) rfl]
    rw [show refS ([0, 0, 0, 0, 0].set 0 (oct p.addr 24 : Int), 0) 46 = ([(oct p.addr 24 : Int), 0, 0, 0, 0], 1) from rfl]
    rw [refS_number (k := 1) (n := oct p.addr 16) (ns := [(oct p.addr 24 : Int), 0, 0, 0, 0]) (by omega) rfl]
    rw [show refS ([(oct p.addr 24 : Int), 0, 0, 0, 0].set 1 (oct p.addr 16 : Int), 1) 46 = ([(oct p.addr 24 : Int), (oct p.addr 16 : Int), 0, 0, 0], 2) from rfl]
    rw [refS_number (k := 2) (n := oct p.addr 8) (ns := [(oct p.addr 24 : Int), (oct p.addr 16 : Int), 0, 0, 0]) (by omega) rfl]
    rw [show refS ([(oct p.addr 24 : Int), (oct p.addr 16 : Int), 0, 0, 0].set 2 (oct p.addr 8 : Int), 2) 46 = ([(oct p.addr 24 : Int), (oct p.addr 16 : Int), (oct p.addr 8 : Int), 0, 0], 3) from rfl]
    rw [refS_number (k := 3) (n := oct p.addr 0) (ns := [(oct p.addr 24 : Int), (oct p.addr 16 : Int), (oct p.addr 8 : Int), 0, 0]) (by omega) rfl]
    rw [show refS ([(oct p.addr 24 : Int), (oct p.addr 16 : Int), (oct p.addr 8 : Int), 0, 0].set 3 (oct p.addr 0 : Int), 3) 47 = ([(oct p.addr 24 : Int), (oct p.addr 16 : Int), (oct p.addr 8 : Int), (oct p.addr 0 : Int), 0], 4) from rfl]
    rw [refS_number (k := 4) (n := p.len.toNat) (ns := [(oct p.addr 24 : Int), (oct p.addr 16 : Int), (oct p.addr 8 : Int), (oct p.addr 0 : Int), 0]) (by omega) rfl]
    rfl
  unfold rcand
  rw [hf]
  show (⟨addrOf [oct p.addr 24, oct p.addr 16, oct p.addr 8, oct p.addr 0], p.len⟩ : Pfx) = p
  rw [addrOf_oct ha]
theorem pfxParse_ref (l : List UInt8) : pfxParse l = if l ≠ [] ∧ pfxText (rcand l) = l then (rcand l, 0) else (⟨0, 0⟩, 3) :=
  pfxParse_by (addrOf_lt _) fun p h1 h2 h3 => by rw [← h3, rcand_text h1 h2]
/-- a prefix contains an address; covers another one -/
def pcon (p : Pfx) (a : Nat) : Bool := pv p && decide ((mk a p.len.toNat : Int) = p.addr)
def pcov (p q : Pfx) : Bool := pv q && (decide (p.len ≤ q.len) && pcon p q.addr)
theorem pcon_iff {p : Pfx} {a : Nat} : pcon p a = true ↔ pv p = true ∧ mk a p.len.toNat = p.addr := by
  unfold pcon; simp only [Bool.and_eq_true, decide_eq_true_eq]
  constructor
  · rintro ⟨h1, h2⟩; exact ⟨h1, by omega⟩
  · rintro ⟨h1, h2⟩; exact ⟨h1, by omega⟩
theorem pcov_iff {p q : Pfx} : pcov p q = true ↔ pv q = true ∧ p.len ≤ q.len ∧ pcon p q.addr = true := by
  unfold pcov; simp only [Bool.and_eq_true, decide_eq_true_eq]
theorem cov_common {p q : Pfx} {a : Nat} (hl : p.len ≤ q.len) (h1 : pcon p a = true) (h2 : pcon q a = true) : pcov p q = true := by
  obtain ⟨v1, e1⟩ := pcon_iff.1 h1
  obtain ⟨v2, e2⟩ := pcon_iff.1 h2
  obtain ⟨a1, a2, a3⟩ := pv_iff.1 v1
  obtain ⟨b1, b2, b3⟩ := pv_iff.1 v2
  refine pcov_iff.2 ⟨v2, hl, pcon_iff.2 ⟨v1, ?_⟩⟩
  rw [← e2, mk_mk (by omega) (by omega), e1]
theorem cov_first {p q : Pfx} (hq : pv q = true) (h : pcon p q.addr = true) : pcov p q = true ∨ pcov q p = true := by
  obtain ⟨v1, e1⟩ := pcon_iff.1 h
  obtain ⟨a1, a2, a3⟩ := pv_iff.1 v1
  obtain ⟨b1, b2, b3⟩ := pv_iff.1 hq
  by_cases hl : p.len ≤ q.len
  · exact .inl (pcov_iff.2 ⟨hq, hl, h⟩)
  · refine .inr (pcov_iff.2 ⟨v1, by omega, pcon_iff.2 ⟨hq, ?_⟩⟩)
    have := mk_km (a := q.addr) (m := q.len.toNat) (n := p.len.toNat) (by omega) (by omega)
    rw [b3, e1] at this
    rw [this, b3]
theorem nested_law {p q : Pfx} (hp : pv p = true) (hq : pv q = true) : (pcov p q || pcov q p) = (pcon p q.addr || pcon q p.addr) := by
  rw [Bool.eq_iff_iff, Bool.or_eq_true, Bool.or_eq_true]
  constructor
  · rintro (h | h)
    · exact .inl (pcov_iff.1 h).2.2
    · exact .inr (pcov_iff.1 h).2.2
  · rintro (h | h)
    · exact cov_first hq h
    · exact (cov_first hp h).symm
theorem nested_addr {p q : Pfx} {a : Nat} (h1 : pcon p a = true) (h2 : pcon q a = true) : (pcov p q || pcov q p) = true := by
  rw [Bool.or_eq_true]
  by_cases hl : p.len ≤ q.len
  · exact .inl (cov_common hl h1 h2)
  · exact .inr (cov_common (by omega) h2 h1)
end Go.Proofs.YtllpenkgaomdfaaDoor.Vm
/- Prefixes: what the machine computes on words. -/
set_option linter.all false
namespace Go.Proofs.YtllpenkgaomdfaaDoor.Vm
open Go Go.RowKit
set_option maxRecDepth 100000
set_option maxHeartbeats 4000000
theorem wrap_u32 {n : Int} (h0 : 0 ≤ n) (h : n < 4294967296) : IntKind.u32.wrap n = n := by
  show (n % 4294967296 : Int) = n
  omega
theorem u32_nat {a : Nat} (h : a < 2 ^ 32) : IntKind.u32.wrap (a : Int) = a := wrap_u32 (by omega) (by omega)
theorem ofInt_nat {k a : Nat} (h : a < 2 ^ k) : (BitVec.ofInt k (a : Int)).toNat = a := by rw [BitVec.ofInt_natCast, BitVec.toNat_ofNat, Nat.mod_eq_of_lt h]
theorem shr_val (a k : Nat) : ((a : Int)).fdiv (2 ^ k) = ((a / 2 ^ k : Nat) : Int) := by rw [Int.ofNat_fdiv, Int.natCast_pow]; rfl
theorem shl_val (a k : Nat) : (a : Int) * 2 ^ k = ((a * 2 ^ k : Nat) : Int) := by rw [Int.natCast_mul, Int.natCast_pow]; rfl
theorem mk_lt {a : Nat} (ha : a < 2 ^ 32) (n : Nat) : mk a n < 2 ^ 32 := Nat.lt_of_le_of_lt (mk_le a n) ha
theorem mask_val {a : Nat} {n : Int} (h0 : 0 ≤ n) (h1 : n ≤ 32) (ha : a < 2 ^ 32) : IntKind.u32.wrap (IntKind.u64.wrap ((IntKind.u64.wrap (a : Int)).fdiv (2 ^ (min (IntKind.i64.wrap (32 - n)).toNat IntKind.u64.bits)) * 2 ^ (min (IntKind.i64.wrap (32 - n)).toNat IntKind.u64.bits))) = (mk a n.toNat : Int) := by
  have e : (min (IntKind.i64.wrap (32 - n)).toNat IntKind.u64.bits) = 32 - n.toNat := by rw [wrap_in (by omega)]; show min _ 64 = _; omega
  rw [e, wrap_u64 (n := (a : Int)) (by omega) (by omega), shr_val, shl_val]
  have := mk_lt ha n.toNat
  show IntKind.u32.wrap (IntKind.u64.wrap (mk a n.toNat : Int)) = _
  rw [wrap_u64 (by omega) (by omega), wrap_u32 (by omega) (by omega)]
/-- the address whose first n bits are 1 -/
def hm (n : Nat) : Nat := 2 ^ 32 - 2 ^ (32 - n)
theorem hm_lt (n : Nat) : hm n < 2 ^ 32 := by unfold hm; have := two_pos (32 - n); have := two_le n; omega
theorem and_val {a n : Nat} (hn : n ≤ 32) (ha : a < 2 ^ 32) : IntKind.u32.wrap (((BitVec.ofInt IntKind.u32.bits (a : Int) &&& BitVec.ofInt IntKind.u32.bits (hm n : Int)).toNat : Nat) : Int) = (mk a n : Int) := by
  rw [BitVec.toNat_and, ofInt_nat (k := IntKind.u32.bits) ha, ofInt_nat (k := IntKind.u32.bits) (hm_lt n)]
  unfold hm
  rw [nat_and_high a (32 - n) (by omega) ha]
  exact u32_nat (mk_lt ha n)
theorem bit_val {i : Nat} (h : i < 32) : IntKind.u32.wrap (1 * 2 ^ (min (IntKind.u64.wrap (IntKind.i64.wrap (31 - (i : Int)))).toNat IntKind.u32.bits)) = ((2 ^ (31 - i) : Nat) : Int) := by
  have e : (min (IntKind.u64.wrap (IntKind.i64.wrap (31 - (i : Int)))).toNat IntKind.u32.bits) = 31 - i := by
    rw [wrap_in (by omega), wrap_u64 (by omega) (by omega)]; show min _ 32 = _; omega
  rw [e, Int.one_mul, show (2 : Int) ^ (31 - i) = ((2 ^ (31 - i) : Nat) : Int) from (Int.natCast_pow 2 _).symm]
  exact u32_nat (Nat.pow_lt_pow_right (by decide) (by omega))
theorem hm_step {i : Nat} (h : i < 32) : IntKind.u32.wrap (((BitVec.ofInt IntKind.u32.bits (hm i : Int) ||| BitVec.ofInt IntKind.u32.bits (IntKind.u32.wrap (1 * 2 ^ (min (IntKind.u64.wrap (IntKind.i64.wrap (31 - (i : Int)))).toNat IntKind.u32.bits)))).toNat : Nat) : Int) = (hm (i + 1) : Int) := by
  rw [bit_val h, BitVec.toNat_or, ofInt_nat (k := IntKind.u32.bits) (hm_lt i), ofInt_nat (k := IntKind.u32.bits) (Nat.pow_lt_pow_right (by decide) (show 31 - i < 32 by omega))]
  unfold hm
  rw [nat_or_bit i h, show 32 - (i + 1) = 31 - i by omega]
  exact u32_nat (by have := two_pos (31 - i); omega)
theorem hi_val {a : Nat} {n : Int} (h0 : 0 ≤ n) (h : n < 32) (ha : a < 2 ^ 32) (hm : mk a n.toNat = a) : IntKind.u32.wrap (((BitVec.ofInt IntKind.u32.bits (a : Int) ||| BitVec.ofInt IntKind.u32.bits (IntKind.u32.wrap (1 * 2 ^ (min (IntKind.u64.wrap (IntKind.i64.wrap (31 - n))).toNat IntKind.u32.bits)))).toNat : Nat) : Int) = ((a + 2 ^ (31 - n.toNat) : Nat) : Int) := by
  obtain ⟨i, rfl⟩ := Int.eq_ofNat_of_zero_le h0
  show _ = ((a + 2 ^ (31 - i) : Nat) : Int)
  have hb : mk a i = a := hm
  rw [bit_val (by omega), BitVec.toNat_or, ofInt_nat (k := IntKind.u32.bits) ha, ofInt_nat (k := IntKind.u32.bits) (Nat.pow_lt_pow_right (by decide) (show 31 - i < 32 by omega)), hi_or (by omega) hb]
  exact u32_nat (hi_lt (by omega) hb ha)
theorem hi_val' {a : Nat} {n : Int} (h0 : 0 ≤ n) (h : n < 32) (ha : a < 2 ^ 32) (hm : mk a n.toNat = a) : IntKind.u32.wrap (((BitVec.ofInt IntKind.u32.bits (a : Int) ||| BitVec.ofInt IntKind.u32.bits (IntKind.u32.wrap (1 * 2 ^ (min (IntKind.i64.wrap (31 - n)).toNat IntKind.u32.bits)))).toNat : Nat) : Int) = ((a + 2 ^ (31 - n.toNat) : Nat) : Int) := by
  have := hi_val h0 h ha hm
  rwa [wrap_u64 (by rw [wrap_in (by omega)]; omega) (by rw [wrap_in (by omega)]; omega)] at this
theorem oct_val {a k : Nat} (ha : a < 2 ^ 32) (hk : k ≤ 32) : IntKind.i64.wrap (IntKind.u32.wrap (((BitVec.ofInt IntKind.u32.bits ((a : Int).fdiv (2 ^ (min ((k : Int)).toNat IntKind.u32.bits))) &&& BitVec.ofInt IntKind.u32.bits 255).toNat : Nat) : Int)) = (oct a k : Int) := by
  have e : (min ((k : Int)).toNat IntKind.u32.bits) = k := by show min _ 32 = _; omega
  have hq : a / 2 ^ k < 2 ^ 32 := Nat.lt_of_le_of_lt (Nat.div_le_self _ _) ha
  have ho := oct_lt a k
  rw [e, shr_val, BitVec.toNat_and, ofInt_nat (k := IntKind.u32.bits) hq, show (BitVec.ofInt IntKind.u32.bits 255).toNat = 2 ^ 8 - 1 from by decide, Nat.and_two_pow_sub_one_eq_mod]
  show IntKind.i64.wrap (IntKind.u32.wrap (oct a k : Int)) = _
  rw [u32_nat (by omega), wrap_in (by omega)]
theorem and255 (n : Int) : (BitVec.ofInt 64 n &&& BitVec.ofInt 64 255).toNat = (n % 256).toNat := by
  rw [BitVec.toNat_and, BitVec.toNat_ofInt, BitVec.toNat_ofInt, show ((255:Int) % ((2^64 : Nat) : Int)).toNat = 2^8 - 1 from by decide, Nat.and_two_pow_sub_one_eq_mod]
  omega
theorem step_val {a : Nat} (n : Int) (ha : a < 2 ^ 32) : IntKind.u32.wrap (((BitVec.ofInt IntKind.u32.bits (IntKind.u32.wrap ((a : Int) * 2 ^ (min (8 : Int).toNat IntKind.u32.bits))) ||| BitVec.ofInt IntKind.u32.bits (IntKind.u32.wrap (IntKind.i64.wrap (((BitVec.ofInt IntKind.i64.bits n &&& BitVec.ofInt IntKind.i64.bits 255).toNat : Nat) : Int)))).toNat : Nat) : Int) = (addrStep a n : Int) := by
  have h2 : (BitVec.ofInt IntKind.i64.bits n &&& BitVec.ofInt IntKind.i64.bits 255).toNat = (n % 256).toNat := and255 n
  have e : (min (8 : Int).toNat IntKind.u32.bits) = 8 := by decide
  have h3 : IntKind.u32.wrap ((a : Int) * 2 ^ 8) = ((a * 256 % 2 ^ 32 : Nat) : Int) := by
    rw [shl_val]
    show (((a * 2 ^ 8 : Nat) : Int) % 4294967296) = _
    omega
  rw [h2, e, h3, wrap_in (n := (((n % 256).toNat : Nat) : Int)) (by omega), u32_nat (a := (n % 256).toNat) (by omega), BitVec.toNat_or, ofInt_nat (k := IntKind.u32.bits) (show a * 256 % 2 ^ 32 < 2 ^ 32 from Nat.mod_lt _ (by decide)), ofInt_nat (k := IntKind.u32.bits) (show (n % 256).toNat < 2 ^ 32 by omega)]
  exact u32_nat (addrStep_lt a n)
theorem addrOf_snoc (ns : List Int) (n : Int) : addrOf (ns ++ [n]) = addrStep (addrOf ns) n := by unfold addrOf; rw [List.foldl_append]; rfl
end Go.Proofs.YtllpenkgaomdfaaDoor.Vm
/- Contracts: texts of components. -/
set_option linter.all false
namespace Go.Proofs.YtllpenkgaomdfaaDoor.Vm
open Go Go.RowKit
set_option maxRecDepth 100000
set_option maxHeartbeats 4000000
theorem cut_c (s sep : List UInt8) (hl : s.length ≤ 100000000) : PureCall Tryd.prog F.strings_Cut [.str s, .str sep] (.tuple [.str (Lib.cut s sep).1, .str (Lib.cut s sep).2.1, .bool (Lib.cut s sep).2.2]) := by
  refine pure_of_calls (known_of K.strings_Cut) fun st w vals hlt htab hl2 hrel => ?_
  obtain ⟨a, b, rfl⟩ := vals2 hl2
  have ha := rel_str (hrel 0 _ a rfl rfl)
  have hb := rel_str (hrel 1 _ b rfl rfl)
  subst ha; subst hb
  obtain ⟨cs, ⟨m, rfl⟩, hc⟩ := cell_of_tab (g := G.internal_bytealg_MaxLen) htab memLen (by kernel_rfl)
  have hsz : (ByteArray.mk s.toArray).size = s.length := by simp [ByteArray.size]
  refine (Tryd.strings_Cut ⟨s.toArray⟩ ⟨sep.toArray⟩ m w (by rw [hsz]; omega) (hc 0)).mono fun e w' ⟨he, n, hw⟩ => ?_
  subst hw
  rw [bytes_list, bytes_list] at he
  refine ⟨_, he, ⟨rfl, rfl, rfl, Nat.le_refl _, fun _ _ => rfl⟩, .tuple rfl fun i x v hx hv => ?_⟩
  match i with
  | 0 => cases hx; cases hv; exact .str _
  | 1 => cases hx; cases hv; exact .str _
  | 2 => cases hx; cases hv; exact .bool _
  | i + 3 => simp at hx
def compWord (k : Int) : List UInt8 := if k = 1 then [108, 105, 110, 107] else if k = 2 then [110, 111, 100, 101] else [103, 114, 111, 117, 112]
def compText (c : Comp) : List UInt8 := if 1 ≤ c.kind ∧ c.kind ≤ 3 ∧ 0 ≤ c.num ∧ c.num ≤ 999999999 then compWord c.kind ++ [32] ++ number c.num else []
theorem compText_len (c : Comp) : (compText c).length ≤ 30 := by
  unfold compText
  split
  · have := number_len c.num
    have hw : (compWord c.kind).length ≤ 5 := by unfold compWord; repeat' split
                                                 all_goals decide
    simp; omega
  · simp
end Go.Proofs.YtllpenkgaomdfaaDoor.Vm
/- Contracts: prefixes: Valid, texts. -/
set_option linter.all false
namespace Go.Proofs.YtllpenkgaomdfaaDoor.Vm
open Go Go.RowKit
set_option maxRecDepth 100000
set_option maxHeartbeats 4000000
theorem maskP_c {a : Nat} {n : Int} (h0 : 0 ≤ n) (h1 : n ≤ 32) (ha : a < 2 ^ 32) : PureCall Tryd.prog F.prefix_mask [.int .u32 (a : Int), ai n] (.int .u32 (mk a n.toNat : Int)) := by
  refine contractS fits K.prefix_mask ?_
  have hw : (0 : Int) ≤ IntKind.i64.wrap (32 - n) := by rw [wrap_in (by omega)]; omega
  repeat' (first
    | contradiction
    | ((with_reducible refine step ?_); conv => whnf) | ((with_reducible refine br_dec (fun h => ?_) (fun h => ?_)) <;> try (exfalso; omega)) | ((with_reducible refine br_ndec (fun h => ?_) (fun h => ?_)) <;> try (exfalso; omega)) | (with_reducible refine br_not (fun h => ?_) (fun h => ?_)) | (with_reducible refine And.intro (fun h => ?_) (fun h => ?_))
    | (refine And.intro hw ?_; conv => whnf)
    | fail)
  all_goals exact congrArg (AV.int .u32) (mask_val h0 h1 ha)
theorem maskR_c {n : Int} (h0 : 0 ≤ n) (h1 : n ≤ 32) : PureCall Tryd.prog F.ref04_mask [ai n] (.int .u32 (hm n.toNat : Int)) := by
  refine contractS fits K.ref04_mask ?_
  repeat' (first
    | contradiction
    | ((with_reducible refine step ?_); conv => whnf) | ((with_reducible refine br_dec (fun h => ?_) (fun h => ?_)) <;> try (exfalso; omega)) | ((with_reducible refine br_ndec (fun h => ?_) (fun h => ?_)) <;> try (exfalso; omega)) | (with_reducible refine br_not (fun h => ?_) (fun h => ?_)) | (with_reducible refine And.intro (fun h => ?_) (fun h => ?_))
    | fail)
  refine loop_invS (fun i => i ≤ n.toNat) [0, 3, 4] 0 (fun i => [(3, .int .u32 (hm i : Int)), (4, ai i)]) (fun _ => []) (fun i => n.toNat - i) 0 (by decide) (by decide) ?_
  conv => whnf
  refine ⟨rfl, rfl, Nat.zero_le _, fun i hi => ?_⟩
  repeat' (first
    | contradiction
    | ((with_reducible refine step ?_); conv => whnf) | ((with_reducible refine br_dec (fun h => ?_) (fun h => ?_)) <;> try (exfalso; omega)) | ((with_reducible refine br_ndec (fun h => ?_) (fun h => ?_)) <;> try (exfalso; omega)) | (with_reducible refine br_not (fun h => ?_) (fun h => ?_)) | (with_reducible refine And.intro (fun h => ?_) (fun h => ?_))
    | (refine And.intro (show (0 : Int) ≤ IntKind.u64.wrap (IntKind.i64.wrap (31 - (i : Int))) by rw [wrap_in (by omega), wrap_u64 (by omega) (by omega)]; omega) ?_; conv => whnf)
    | fail)
  · refine ⟨i + 1, by omega, by omega, ?_, rfl⟩
    rw [hm_step (show i < 32 by omega), wrap_succ (by omega)]; rfl
  · rw [show n.toNat = i by omega]
theorem validPx_c {p : Pfx} (ha : p.addr < 2 ^ 32) : PureCall Tryd.prog F.prefix_Valid [.agg p.enc] (.bool (pv p)) := by
  obtain ⟨a, n⟩ := p
  dsimp only at ha
  show PureCall Tryd.prog F.prefix_Valid [.agg [.int .u32 (a : Int), ai n]] _
  unfold pv
  refine contractS fits K.prefix_Valid ?_
  repeat' (first
    | contradiction
    | ((with_reducible refine step ?_); conv => whnf) | ((with_reducible refine br_dec (fun h => ?_) (fun h => ?_)) <;> try (exfalso; omega)) | ((with_reducible refine br_ndec (fun h => ?_) (fun h => ?_)) <;> try (exfalso; omega)) | (with_reducible refine br_not (fun h => ?_) (fun h => ?_)) | (with_reducible refine And.intro (fun h => ?_) (fun h => ?_))
    | (refine call_pure (maskP_c (a := a) (n := n) (by omega) (by omega) ha) rfl rfl ?_; conv => whnf)
    | fail)
  all_goals simp only [decide_eq_true_eq, decide_eq_false_iff_not] at *
  all_goals first | (refine congrArg AV.bool ?_; simp_all; done) | (rw [decide_eq_false (show ¬ n ≤ 32 by assumption)]; simp; done) | (rw [decide_eq_false (show ¬ 0 ≤ n by assumption)]; simp; done)
theorem validPx4_c {p : Pfx} (ha : p.addr < 2 ^ 32) : PureCall Tryd.prog F.ref04_Valid [.agg p.enc] (.bool (pv p)) := by
  obtain ⟨a, n⟩ := p
  dsimp only at ha
  show PureCall Tryd.prog F.ref04_Valid [.agg [.int .u32 (a : Int), ai n]] _
  unfold pv
  refine contractS fits K.ref04_Valid ?_
  repeat' (first
    | contradiction
    | ((with_reducible refine step ?_); conv => whnf) | ((with_reducible refine br_dec (fun h => ?_) (fun h => ?_)) <;> try (exfalso; omega)) | ((with_reducible refine br_ndec (fun h => ?_) (fun h => ?_)) <;> try (exfalso; omega)) | (with_reducible refine br_not (fun h => ?_) (fun h => ?_)) | (with_reducible refine And.intro (fun h => ?_) (fun h => ?_))
    | (refine call_pure (maskR_c (n := n) (by omega) (by omega)) rfl rfl ?_; conv => whnf)
    | fail)
  all_goals simp only [decide_eq_true_eq, decide_eq_false_iff_not] at *
  all_goals first | (refine congrArg AV.bool ?_; simp_all; done) | (rw [decide_eq_false (show ¬ n ≤ 32 by assumption)]; simp; done) | (rw [decide_eq_false (show ¬ 0 ≤ n by assumption)]; simp; done) | (have hv := and_val (a := a) (n := n.toNat) (by omega) ha; refine congrArg AV.bool ?_; simp_all; done)
theorem number4_c : ∀ (k : Nat) (n : Nat), 1 ≤ k → k ≤ 4 → n < 10 ^ k → PureCall Tryd.prog F.ref04_number [ai (n : Int)] (.str (digF 20 n)) := by
  intro k
  induction k with
  | zero => intro n h; omega
  | succ k ih =>
    intro n _ hk hn
    have hn4 : n < 10000 := Nat.lt_of_lt_of_le hn (Nat.pow_le_pow_right (by decide) hk)
    have hrec : ¬ (n : Int) < 10 → PureCall Tryd.prog F.ref04_number [ai (IntKind.i64.wrap ((n : Int).tdiv 10))] (.str (digF 19 (n / 10))) := fun h10 => by
      rw [Int.tdiv_eq_ediv_of_nonneg (by omega), wrap_in (by omega), show (n : Int) / 10 = ((n / 10 : Nat) : Int) by omega]
      have hk1 : 1 ≤ k := by
        rcases Nat.eq_zero_or_pos k with rfl | h
        · simp at hn; omega
        · exact h
      have := ih (n / 10) hk1 (by omega) (by rw [Nat.pow_succ] at hn; omega)
      have e : digF 19 (n / 10) = digF 20 (n / 10) := digF_fuel (by decide) (by decide) (by omega) (by omega)
      rw [e]; exact this
    have hone : ¬ (n : Int) < 10 → PureCall Tryd.prog F.ref04_number [ai ((n : Int).tmod 10)] (.str [dig (n % 10)]) := fun h10 => by
      rw [Int.tmod_eq_emod_of_nonneg (by omega), show (n : Int) % 10 = ((n % 10 : Nat) : Int) by omega]
      have hk1 : 1 ≤ k := by
        rcases Nat.eq_zero_or_pos k with rfl | h
        · simp at hn; omega
        · exact h
      have := ih (n % 10) hk1 (by omega) (Nat.lt_of_lt_of_le (Nat.mod_lt _ (by decide)) (by
        have := Nat.pow_le_pow_right (show 0 < 10 by decide) hk1; omega))
      have e : digF 20 (n % 10) = [dig (n % 10)] := by rw [digF, if_pos (Nat.mod_lt _ (by decide))]
      rwa [e] at this
    refine contractS fits K.ref04_number ?_
    repeat' (first
      | contradiction
      | ((with_reducible refine step ?_); conv => whnf) | ((with_reducible refine br_dec (fun h => ?_) (fun h => ?_)) <;> try (exfalso; omega)) | ((with_reducible refine br_ndec (fun h => ?_) (fun h => ?_)) <;> try (exfalso; omega)) | (with_reducible refine br_not (fun h => ?_) (fun h => ?_)) | (with_reducible refine And.intro (fun h => ?_) (fun h => ?_))
      | (with_reducible refine And.intro (show (_ : Int) ≠ 0 by decide) ?_; conv => whnf)
      | (refine call_pure (hrec (by omega)) rfl rfl ?_; conv => whnf)
      | (refine call_pure (hone (by omega)) rfl rfl ?_; conv => whnf)
      | (refine And.intro (by have := digF_len 19 (n / 10); show _ + 1 ≤ _; omega) ?_; conv => whnf)
      | fail)
    · have e : UInt8.ofNat (IntKind.u8.wrap (IntKind.i64.wrap (48 + (n : Int)))).toNat = dig n := by
        have hn : n < 10 := by omega
        rcases n with _ | _ | _ | _ | _ | _ | _ | _ | _ | _ | n <;> first | rfl | omega
      rw [e, digF, if_pos (by omega)]
    · rw [show digF 20 n = if n < 10 then [dig n] else digF 19 (n / 10) ++ [dig (n % 10)] from rfl, if_neg (by omega)]
theorem numberPx_c {n : Int} (h0 : 0 ≤ n) (h1 : n ≤ 255) : PureCall Tryd.prog F.ref04_number [ai n] (.str (number n)) := by
  have := number4_c 3 n.toNat (by decide) (by decide) (by omega)
  rw [number_pos h0]
  rwa [show ((n.toNat : Nat) : Int) = n by omega] at this
theorem textPx_c {p : Pfx} (ha : p.addr < 2 ^ 32) : PureCall Tryd.prog F.prefix_Text [.agg p.enc] (.str (pfxText p)) := by
  have hval := validPx_c ha
  obtain ⟨a, n⟩ := p
  dsimp only at ha
  unfold pfxText
  by_cases hv : pv ⟨a, n⟩ = true
  · obtain ⟨h0, h1, h2⟩ := pv_iff.1 hv
    dsimp only at h0 h1
    rw [if_pos hv]
    rw [hv] at hval
    have j3 := number_short (n := oct a 24) (j := 3) (by decide) (by decide) (Nat.lt_of_lt_of_le (oct_lt _ _) (by decide))
    have j2 := number_short (n := oct a 16) (j := 3) (by decide) (by decide) (Nat.lt_of_lt_of_le (oct_lt _ _) (by decide))
    have j1 := number_short (n := oct a 8) (j := 3) (by decide) (by decide) (Nat.lt_of_lt_of_le (oct_lt _ _) (by decide))
    have j0 := number_short (n := oct a 0) (j := 3) (by decide) (by decide) (Nat.lt_of_lt_of_le (oct_lt _ _) (by decide))
    have jl := number_len n
    have o3 := oct_lt a 24
    have o2 := oct_lt a 16
    have o1 := oct_lt a 8
    have o0 := oct_lt a 0
    have k3 := itoaN_c (oct a 24 : Int) (by omega) (by omega)
    have k2 := itoaN_c (oct a 16 : Int) (by omega) (by omega)
    have k1 := itoaN_c (oct a 8 : Int) (by omega) (by omega)
    have k0 := itoaN_c (oct a 0 : Int) (by omega) (by omega)
    have kl := itoaN_c n (by omega) (by omega)
    have e3 := oct_val (k := 24) ha (by decide)
    have e2 := oct_val (k := 16) ha (by decide)
    have e1 := oct_val (k := 8) ha (by decide)
    have e0 := oct_val (k := 0) ha (by decide)
    have kj := join_c [number (oct a 24), number (oct a 16), number (oct a 8), number (oct a 0)] [46] (by simp) (by simp [Lib.join, List.intercalate]; omega)
    have hJ : Lib.join [number (oct a 24), number (oct a 16), number (oct a 8), number (oct a 0)] [46] = number (oct a 24) ++ 46 :: (number (oct a 16) ++ 46 :: (number (oct a 8) ++ 46 :: number (oct a 0))) := by simp [Lib.join, List.intercalate]
    rw [hJ] at kj
    show PureCall Tryd.prog F.prefix_Text [.agg [.int .u32 (a : Int), ai n]] _
    refine contractS fits K.prefix_Text ?_
    repeat' (first
      | contradiction
      | ((with_reducible refine step ?_); conv => whnf) | ((with_reducible refine br_dec (fun h => ?_) (fun h => ?_)) <;> try (exfalso; omega)) | ((with_reducible refine br_ndec (fun h => ?_) (fun h => ?_)) <;> try (exfalso; omega)) | (with_reducible refine br_not (fun h => ?_) (fun h => ?_)) | (with_reducible refine And.intro (fun h => ?_) (fun h => ?_))
      | (refine call_pure hval rfl rfl ?_; conv => whnf)
      | (refine loop_fuelD 5 ?_; conv => whnf)
      | (refine call_pure k3 (congrArg (fun x => [ai x]) e3) rfl ?_; conv => whnf)
      | (refine call_pure k2 (congrArg (fun x => [ai x]) e2) rfl ?_; conv => whnf)
      | (refine call_pure k1 (congrArg (fun x => [ai x]) e1) rfl ?_; conv => whnf)
      | (refine call_pure k0 (congrArg (fun x => [ai x]) e0) rfl ?_; conv => whnf)
      | (refine call_pure kj rfl rfl ?_; conv => whnf)
      | (refine call_pure kl rfl rfl ?_; conv => whnf)
      | (with_reducible refine And.intro (show True ∧ _ from by simp [elemsOk, AV.oneC, big]) ?_; conv => whnf)
      | (refine And.intro (show (0 : Int) ≤ _ by decide) ?_; conv => whnf)
      | (exfalso; revert h; decide)
      | (refine And.intro (show (_ : Nat) ≤ _ from by simp only [List.length_append, List.length_cons, List.length_nil]; omega) ?_; conv => whnf)
      | fail)
    all_goals first | (refine congrArg AV.str ?_; simp; done)
  · rw [if_neg hv]
    rw [Bool.not_eq_true] at hv
    rw [hv] at hval
    show PureCall Tryd.prog F.prefix_Text [.agg [.int .u32 (a : Int), ai n]] _
    refine contractS fits K.prefix_Text ?_
    repeat' (first
      | contradiction
      | ((with_reducible refine step ?_); conv => whnf) | ((with_reducible refine br_dec (fun h => ?_) (fun h => ?_)) <;> try (exfalso; omega)) | ((with_reducible refine br_ndec (fun h => ?_) (fun h => ?_)) <;> try (exfalso; omega)) | (with_reducible refine br_not (fun h => ?_) (fun h => ?_)) | (with_reducible refine And.intro (fun h => ?_) (fun h => ?_))
      | (refine call_pure hval rfl rfl ?_; conv => whnf)
      | fail)
    all_goals first | rfl | (exfalso; simp_all; done)
end Go.Proofs.YtllpenkgaomdfaaDoor.Vm
/- Contracts: prefixes: texts of the reference, Parse. -/
set_option linter.all false
namespace Go.Proofs.YtllpenkgaomdfaaDoor.Vm
open Go Go.RowKit
set_option maxRecDepth 100000
set_option maxHeartbeats 4000000
theorem textPx4_c {p : Pfx} (ha : p.addr < 2 ^ 32) : PureCall Tryd.prog F.ref04_Text [.agg p.enc] (.str (pfxText p)) := by
  have hval := validPx4_c ha
  obtain ⟨a, n⟩ := p
  dsimp only at ha
  unfold pfxText
  by_cases hv : pv ⟨a, n⟩ = true
  · obtain ⟨h0, h1, h2⟩ := pv_iff.1 hv
    dsimp only at h0 h1
    rw [if_pos hv]
    rw [hv] at hval
    have j3 := number_short (n := oct a 24) (j := 3) (by decide) (by decide) (Nat.lt_of_lt_of_le (oct_lt _ _) (by decide))
    have j2 := number_short (n := oct a 16) (j := 3) (by decide) (by decide) (Nat.lt_of_lt_of_le (oct_lt _ _) (by decide))
    have j1 := number_short (n := oct a 8) (j := 3) (by decide) (by decide) (Nat.lt_of_lt_of_le (oct_lt _ _) (by decide))
    have j0 := number_short (n := oct a 0) (j := 3) (by decide) (by decide) (Nat.lt_of_lt_of_le (oct_lt _ _) (by decide))
    have jl := number_len n
    have o3 := oct_lt a 24
    have o2 := oct_lt a 16
    have o1 := oct_lt a 8
    have o0 := oct_lt a 0
    have k3 := numberPx_c (n := oct a 24) (by omega) (by omega)
    have k2 := numberPx_c (n := oct a 16) (by omega) (by omega)
    have k1 := numberPx_c (n := oct a 8) (by omega) (by omega)
    have k0 := numberPx_c (n := oct a 0) (by omega) (by omega)
    have kl := numberPx_c (n := n) (by omega) (by omega)
    have e3 := oct_val (k := 24) ha (by decide)
    have e2 := oct_val (k := 16) ha (by decide)
    have e1 := oct_val (k := 8) ha (by decide)
    have e0 := oct_val (k := 0) ha (by decide)
    show PureCall Tryd.prog F.ref04_Text [.agg [.int .u32 (a : Int), ai n]] _
    refine contractS fits K.ref04_Text ?_
    repeat' (first
      | contradiction
      | ((with_reducible refine step ?_); conv => whnf) | ((with_reducible refine br_dec (fun h => ?_) (fun h => ?_)) <;> try (exfalso; omega)) | ((with_reducible refine br_ndec (fun h => ?_) (fun h => ?_)) <;> try (exfalso; omega)) | (with_reducible refine br_not (fun h => ?_) (fun h => ?_)) | (with_reducible refine And.intro (fun h => ?_) (fun h => ?_))
      | (refine call_pure hval rfl rfl ?_; conv => whnf)
      | (refine loop_fuelD 5 ?_; conv => whnf)
      | (refine call_pure k3 (congrArg (fun x => [ai x]) e3) rfl ?_; conv => whnf)
      | (refine call_pure k2 (congrArg (fun x => [ai x]) e2) rfl ?_; conv => whnf)
      | (refine call_pure k1 (congrArg (fun x => [ai x]) e1) rfl ?_; conv => whnf)
      | (refine call_pure k0 (congrArg (fun x => [ai x]) e0) rfl ?_; conv => whnf)
      | (refine call_pure kl rfl rfl ?_; conv => whnf)
      | (refine And.intro (show (0 : Int) ≤ _ by decide) ?_; conv => whnf)
      | (exfalso; revert h; decide)
      | (refine And.intro (show (_ : Nat) ≤ _ from by simp only [List.length_append, List.length_cons, List.length_nil]; omega) ?_; conv => whnf)
      | fail)
    all_goals first | (refine congrArg AV.str ?_; simp; done)
  · rw [if_neg hv]
    rw [Bool.not_eq_true] at hv
    rw [hv] at hval
    show PureCall Tryd.prog F.ref04_Text [.agg [.int .u32 (a : Int), ai n]] _
    refine contractS fits K.ref04_Text ?_
    repeat' (first
      | contradiction
      | ((with_reducible refine step ?_); conv => whnf) | ((with_reducible refine br_dec (fun h => ?_) (fun h => ?_)) <;> try (exfalso; omega)) | ((with_reducible refine br_ndec (fun h => ?_) (fun h => ?_)) <;> try (exfalso; omega)) | (with_reducible refine br_not (fun h => ?_) (fun h => ?_)) | (with_reducible refine And.intro (fun h => ?_) (fun h => ?_))
      | (refine call_pure hval rfl rfl ?_; conv => whnf)
      | fail)
    all_goals first | rfl | (exfalso; simp_all; done)
theorem parsePx_c (l : List UInt8) (hl : l.length ≤ 1000000) : PureCall Tryd.prog F.prefix_Parse [.str l] (.tuple [.agg (pfxParse l).1.enc, ai (pfxParse l).2]) := by
  have hcut := cut_c l [47] (by omega)
  have hlen : (Lib.cut l [47]).1.length ≤ l.length ∧ (Lib.cut l [47]).2.1.length ≤ l.length := by
    unfold Lib.cut
    split
    · simp; omega
    · simp
  have hsp := split_c (Lib.cut l [47]).1 46 (by omega)
  have hat := atoiD_c (Lib.cut l [47]).2.1 (by omega)
  have htx := textPx_c (p := cand l) (cand_lt l)
  have hpar := parts_count 46 (Lib.cut l [47]).1
  have hmem : ∀ x ∈ parts 46 (Lib.cut l [47]).1, x.length ≤ 1000000 := fun x hx => by
    have := parts_len 46 (Lib.cut l [47]).1 x hx; omega
  have hdef : pfxParse l = if l ≠ [] ∧ pfxText (cand l) = l then (cand l, 0) else (⟨0, 0⟩, 3) := rfl
  have hc : cand l = ⟨addrOf ((parts 46 (Lib.cut l [47]).1).map atoiV), atoiV (Lib.cut l [47]).2.1⟩ := rfl
  rw [hdef]
  clear hdef
  rw [hc] at htx ⊢
  clear hc
  generalize Lib.cut l [47] = q at hcut hlen hsp hat htx hpar hmem ⊢
  obtain ⟨w, r, b⟩ := q
  dsimp only at hcut hlen hsp hat htx hpar hmem ⊢
  generalize parts 46 w = ps at hsp htx hpar hmem ⊢
  generalize atoiV r = n at hat htx ⊢
  refine contractS fits K.prefix_Parse ?_
  repeat' (first
      | contradiction
      | ((with_reducible refine step ?_); conv => whnf) | ((with_reducible refine br_dec (fun h => ?_) (fun h => ?_)) <;> try (exfalso; omega)) | ((with_reducible refine br_ndec (fun h => ?_) (fun h => ?_)) <;> try (exfalso; omega)) | (with_reducible refine br_not (fun h => ?_) (fun h => ?_)) | (with_reducible refine And.intro (fun h => ?_) (fun h => ?_))
      | (refine call_pure hcut rfl rfl ?_; conv => whnf)
      | (refine call_pure hsp rfl rfl ?_; conv => whnf)
      | fail)
  refine loop_invS (fun i => i ≤ ps.length) [0, 2, 5, 7, 19, 20, 21] 2 (fun i => [(21, ai i)]) (fun i => [(1, .box [.int .u32 (addrOf ((ps.take i).map atoiV) : Int), ai 0] false)]) (fun i => ps.length - i) 0 (by decide) (by decide) ?_
  conv => whnf
  refine ⟨rfl, rfl, Nat.zero_le _, fun i hi => ?_⟩
  have hget : ∀ h : i < ps.length, (ps.take (i + 1)).map atoiV = (ps.take i).map atoiV ++ [atoiV ps[i]] := fun h => by
    rw [List.take_succ_eq_append_getElem h, List.map_append]; rfl
  have hcall := fun h : i < ps.length => atoiD_c ps[i] (by have := hmem ps[i] (List.getElem_mem h); omega)
  have hend : ¬ (i : Int) < ps.length → (ps.take i).map atoiV = ps.map atoiV := fun h => by rw [List.take_of_length_le (by omega)]
  have hst := fun h : i < ps.length => step_val (a := addrOf ((ps.take i).map atoiV)) (atoiV ps[i]) (addrOf_lt _)
  repeat' (first
      | contradiction
      | ((with_reducible refine step ?_); conv => whnf) | ((with_reducible refine br_dec (fun h => ?_) (fun h => ?_)) <;> try (exfalso; omega)) | ((with_reducible refine br_ndec (fun h => ?_) (fun h => ?_)) <;> try (exfalso; omega)) | (with_reducible refine br_not (fun h => ?_) (fun h => ?_)) | (with_reducible refine And.intro (fun h => ?_) (fun h => ?_))
      | (have hlt : i < ps.length := (by first | omega | simp_all); refine idx_nat hlt rfl ?_; conv => whnf)
      | (refine call_pure (hcall hlt) rfl rfl ?_; conv => whnf)
      | (refine call_pure htx (congrArg (fun x => [AV.agg [.int .u32 (addrOf x : Int), ai n]]) (hend (by simp only [List.length_map] at *; omega))) rfl ?_; conv => whnf)
      | (refine And.intro (show (0 : Int) ≤ _ by decide) ?_; conv => whnf)
      | (refine call_pure hat rfl rfl ?_; conv => whnf)
      | fail)
  · refine ⟨i + 1, by omega, by omega, ?_, ?_⟩
    · rw [wrap_succ (by omega)]; rfl
    · rw [hget hlt, addrOf_snoc, ← hst hlt]; rfl
  all_goals first
    | (rw [if_pos ⟨by assumption, by assumption⟩]; rfl)
    | (rw [if_neg fun h => by simp_all]; rfl)
    | (rw [hend (by simp only [List.length_map] at *; omega), if_pos ⟨by simp_all, by simp_all⟩]; rfl)
   
/-- what the reference has read of a text's first bytes -/
def refAt (l : List UInt8) (i : Nat) : List Int × Nat := (l.take i).foldl refS ([0, 0, 0, 0, 0], 0)
theorem refAt_succ {l : List UInt8} {i : Nat} (h : i < l.length) : refAt l (i + 1) = refS (refAt l i) l[i] := by
  unfold refAt; rw [List.take_succ_eq_append_getElem h, List.foldl_append]; rfl
theorem refS_ok {s : List Int × Nat} {c : UInt8} (h : s.1.length = 5 ∧ s.2 ≤ 4) : (refS s c).1.length = 5 ∧ (refS s c).2 ≤ 4 := by
  unfold refS
  split
  · exact ⟨by rw [List.length_set]; exact h.1, h.2⟩
  · split
    · exact ⟨h.1, by show s.2 + 1 ≤ 4; omega⟩
    · exact h
theorem refAt_ok (l : List UInt8) : ∀ i, (refAt l i).1.length = 5 ∧ (refAt l i).2 ≤ 4 := by
  intro i
  induction i with
  | zero => exact ⟨rfl, Nat.zero_le _⟩
  | succ i ih =>
    by_cases h : i < l.length
    · rw [refAt_succ h]; exact refS_ok ih
    · have : refAt l (i + 1) = refAt l i := by unfold refAt; rw [List.take_of_length_le (by omega), List.take_of_length_le (by omega)]
      rw [this]; exact ih
theorem refF_at {l : List UInt8} {i : Nat} (h : ¬ (i < l.length ∧ i < 20)) (hi : i ≤ 20) : refF l = refAt l i := by
  unfold refF refAt
  by_cases h2 : i < 20
  · rw [List.take_of_length_le (by omega), List.take_of_length_le (by omega)]
  · rw [show i = 20 by omega]
theorem five {l : List Int} (h : l.length = 5) : ∃ a b c d e, l = [a, b, c, d, e] := by
  match l, h with
  | [a, b, c, d, e], _ => exact ⟨a, b, c, d, e, rfl⟩
theorem digit_val {c : UInt8} (h0 : 48 ≤ (c.toNat : Int)) (h1 : (c.toNat : Int) ≤ 57) : IntKind.i64.wrap (IntKind.u8.wrap ((c.toNat : Int) - 48)) = (c.toNat : Int) - 48 := by
  have : IntKind.u8.wrap ((c.toNat : Int) - 48) = (c.toNat : Int) - 48 := by
    show ((c.toNat : Int) - 48) % 256 = _
    omega
  rw [this, wrap_in (by omega)]
theorem refS_dig {s : List Int × Nat} {c : UInt8} (h0 : 48 ≤ (c.toNat : Int)) (h1 : (c.toNat : Int) ≤ 57) : refS s c = (s.1.set s.2 (IntKind.i64.wrap (IntKind.i64.wrap (s.1.getD s.2 0 * 10) + IntKind.i64.wrap (IntKind.u8.wrap ((c.toNat : Int) - 48)))), s.2) := by
  rw [digit_val h0 h1, refS, if_pos ⟨by omega, by omega⟩]
theorem refS_sep {s : List Int × Nat} {c : UInt8} (h : ¬ (48 ≤ (c.toNat : Int) ∧ (c.toNat : Int) ≤ 57)) : refS s c = if s.2 < 4 then (s.1, s.2 + 1) else s := by
  rw [refS, if_neg (by omega)]
/-- the next number, as the machine computes it -/
def stp (a n : Int) : Int := IntKind.u32.wrap (((BitVec.ofInt IntKind.u32.bits (IntKind.u32.wrap (a * 2 ^ (min (8 : Int).toNat IntKind.u32.bits))) ||| BitVec.ofInt IntKind.u32.bits (IntKind.u32.wrap (IntKind.i64.wrap (((BitVec.ofInt IntKind.i64.bits n &&& BitVec.ofInt IntKind.i64.bits 255).toNat : Nat) : Int)))).toNat : Nat) : Int)
theorem stp4 (a b c d : Int) : stp (stp (stp (stp 0 a) b) c) d = (addrOf [a, b, c, d] : Int) := by
  have h0 : stp 0 a = (addrStep 0 a : Int) := step_val (a := 0) a (by decide)
  have h1 : ∀ (x : Nat) (n : Int), x < 2 ^ 32 → stp (x : Int) n = (addrStep x n : Int) := fun x n h => step_val n h
  rw [h0, h1 _ _ (addrStep_lt _ _), h1 _ _ (addrStep_lt _ _), h1 _ _ (addrStep_lt _ _)]
  rfl
theorem parsePx4_c (l : List UInt8) (hl : l.length ≤ 1000000) : PureCall Tryd.prog F.ref04_Parse [.str l] (.tuple [.agg (pfxParse l).1.enc, ai (pfxParse l).2]) := by
  have htx := textPx4_c (p := rcand l) (addrOf_lt _)
  have hyes : l ≠ [] → pfxText (rcand l) = l → pfxParse l = (rcand l, 0) := fun h1 h2 => by rw [pfxParse_ref, if_pos ⟨h1, h2⟩]
  have hno : ¬ (l ≠ [] ∧ pfxText (rcand l) = l) → pfxParse l = (⟨0, 0⟩, 3) := fun h1 => by rw [pfxParse_ref, if_neg h1]
  generalize pfxParse l = R at hyes hno ⊢
  refine contractS fits K.ref04_Parse ?_
  repeat' (first
      | contradiction
      | ((with_reducible refine step ?_); conv => whnf) | ((with_reducible refine br_dec (fun h => ?_) (fun h => ?_)) <;> try (exfalso; omega)) | ((with_reducible refine br_ndec (fun h => ?_) (fun h => ?_)) <;> try (exfalso; omega)) | (with_reducible refine br_not (fun h => ?_) (fun h => ?_)) | (with_reducible refine And.intro (fun h => ?_) (fun h => ?_))
      | fail)
  refine loop_invS (fun i => i ≤ l.length ∧ i ≤ 20) [0, 2, 4, 5, 6] 2 (fun i => [(5, ai ((refAt l i).2 : Int)), (6, ai i)]) (fun i => [(1, .box ((refAt l i).1.map fun n => ai n) false)]) (fun i => 20 - i) 0 (by decide) (by decide) ?_
  conv => whnf
  refine ⟨rfl, rfl, ⟨Nat.zero_le _, by decide⟩, fun i ⟨hi, h20⟩ => ?_⟩
  have hok := refAt_ok l i
  have hexit : ¬ (i < l.length ∧ i < 20) → refF l = refAt l i := fun h => refF_at h h20
  have hnext := fun h : i < l.length => refAt_succ h
  generalize refAt l i = S at hok hexit hnext ⊢
  obtain ⟨ns, k⟩ := S
  obtain ⟨hn, hk⟩ := hok
  dsimp only at hn hk
  obtain ⟨n0, n1, n2, n3, n4, rfl⟩ := five hn
  have hk5 : k = 0 ∨ k = 1 ∨ k = 2 ∨ k = 3 ∨ k = 4 := by omega
  rcases hk5 with rfl | rfl | rfl | rfl | rfl
  all_goals
    repeat' (first
      | contradiction
      | ((with_reducible refine step ?_); conv => whnf) | ((with_reducible refine br_dec (fun h => ?_) (fun h => ?_)) <;> try (exfalso; omega)) | ((with_reducible refine br_ndec (fun h => ?_) (fun h => ?_)) <;> try (exfalso; omega)) | (with_reducible refine br_not (fun h => ?_) (fun h => ?_)) | (with_reducible refine And.intro (fun h => ?_) (fun h => ?_))
      | (have hlt : i < l.length := (by first | omega | simp_all); refine And.intro (Int.natCast_nonneg i) (Exists.intro l[i] (And.intro (by simp) ?_)); conv => whnf)
      | (refine ⟨0, rfl, by decide, ?_⟩; conv => whnf)
      | (refine ⟨1, rfl, by decide, ?_⟩; conv => whnf)
      | (refine ⟨2, rfl, by decide, ?_⟩; conv => whnf)
      | (refine ⟨3, rfl, by decide, ?_⟩; conv => whnf)
      | (refine ⟨4, rfl, by decide, ?_⟩; conv => whnf)
      | fail)
  all_goals try
    (refine ⟨i + 1, ⟨by omega, by omega⟩, by omega, ?_, ?_⟩
     · rw [hnext hlt, show IntKind.i64.wrap ((i : Int) + 1) = ((i + 1 : Nat) : Int) from wrap_succ (by omega)]
       first
         | (rw [refS_dig (by omega) (by omega)]; rfl)
         | (rw [refS_sep (by omega)]; rfl)
     · rw [hnext hlt]
       first
         | (rw [refS_dig (by omega) (by omega)]; rfl)
         | (rw [refS_sep (by omega)]; rfl))
  all_goals
    have hF := hexit (by omega)
    have hr : rcand l = ⟨addrOf [n0, n1, n2, n3], n4⟩ := by unfold rcand; rw [hF]; rfl
    rw [hr] at htx hyes hno
    have hs := stp4 n0 n1 n2 n3
    repeat' (first
      | contradiction
      | ((with_reducible refine step ?_); conv => whnf) | ((with_reducible refine br_dec (fun h => ?_) (fun h => ?_)) <;> try (exfalso; omega)) | ((with_reducible refine br_ndec (fun h => ?_) (fun h => ?_)) <;> try (exfalso; omega)) | (with_reducible refine br_not (fun h => ?_) (fun h => ?_)) | (with_reducible refine And.intro (fun h => ?_) (fun h => ?_))
      | (refine loop_fuelD 5 ?_; conv => whnf)
      | (refine And.intro (show (0 : Int) ≤ _ by decide) ?_; conv => whnf)
      | (refine ⟨0, rfl, by decide, ?_⟩; conv => whnf)
      | (refine ⟨1, rfl, by decide, ?_⟩; conv => whnf)
      | (refine ⟨2, rfl, by decide, ?_⟩; conv => whnf)
      | (refine ⟨3, rfl, by decide, ?_⟩; conv => whnf)
      | (refine call_pure htx (congrArg (fun x => [AV.agg [.int .u32 x, ai n4]]) hs) rfl ?_; conv => whnf)
      | (exfalso; revert h; decide)
      | fail)
    all_goals first
      | (rw [hno fun q => q.1 (of_decide_eq_true h)]; rfl)
      | (rw [hno fun q => h q.2]; rfl)
      | (rw [hyes (of_decide_eq_false (by assumption)) (by assumption)]; dsimp only [Pfx.enc]; rw [← hs]; rfl)
     
end Go.Proofs.YtllpenkgaomdfaaDoor.Vm
/- Contracts: prefixes: Contains, Covers, Split, Parent, Compare. -/
set_option linter.all false
namespace Go.Proofs.YtllpenkgaomdfaaDoor.Vm
open Go Go.RowKit
set_option maxRecDepth 100000
set_option maxHeartbeats 4000000
theorem conPx_c {p : Pfx} {x : Nat} (ha : p.addr < 2 ^ 32) (hx : x < 2 ^ 32) : PureCall Tryd.prog F.prefix_Contains [.agg p.enc, .int .u32 (x : Int)] (.bool (pcon p x)) := by
  have hval := validPx_c ha
  unfold pcon
  by_cases hv : pv p = true
  · obtain ⟨h0, h1, h2⟩ := pv_iff.1 hv
    have hm := maskP_c (a := x) h0 h1 hx
    rw [hv] at hval ⊢
    obtain ⟨a, n⟩ := p
    dsimp only at h0 h1 hm ⊢
    show PureCall Tryd.prog F.prefix_Contains [.agg [.int .u32 (a : Int), ai n], .int .u32 (x : Int)] _
    refine contractS fits K.prefix_Contains ?_
    repeat' (first
      | contradiction
      | ((with_reducible refine step ?_); conv => whnf) | ((with_reducible refine br_dec (fun h => ?_) (fun h => ?_)) <;> try (exfalso; omega)) | ((with_reducible refine br_ndec (fun h => ?_) (fun h => ?_)) <;> try (exfalso; omega)) | (with_reducible refine br_not (fun h => ?_) (fun h => ?_)) | (with_reducible refine And.intro (fun h => ?_) (fun h => ?_))
      | (refine call_pure hval rfl rfl ?_; conv => whnf)
      | (refine call_pure hm rfl rfl ?_; conv => whnf)
      | fail)
    all_goals first | rfl | (exfalso; simp_all; done)
  · rw [Bool.not_eq_true] at hv
    rw [hv] at hval ⊢
    obtain ⟨a, n⟩ := p
    show PureCall Tryd.prog F.prefix_Contains [.agg [.int .u32 (a : Int), ai n], .int .u32 (x : Int)] _
    refine contractS fits K.prefix_Contains ?_
    repeat' (first
      | contradiction
      | ((with_reducible refine step ?_); conv => whnf) | ((with_reducible refine br_dec (fun h => ?_) (fun h => ?_)) <;> try (exfalso; omega)) | ((with_reducible refine br_ndec (fun h => ?_) (fun h => ?_)) <;> try (exfalso; omega)) | (with_reducible refine br_not (fun h => ?_) (fun h => ?_)) | (with_reducible refine And.intro (fun h => ?_) (fun h => ?_))
      | (refine call_pure hval rfl rfl ?_; conv => whnf)
      | fail)
    all_goals first | rfl | (exfalso; simp_all; done)
theorem conPx4_c {p : Pfx} {x : Nat} (ha : p.addr < 2 ^ 32) (hx : x < 2 ^ 32) : PureCall Tryd.prog F.ref04_Contains [.agg p.enc, .int .u32 (x : Int)] (.bool (pcon p x)) := by
  have hval := validPx4_c ha
  unfold pcon
  by_cases hv : pv p = true
  · obtain ⟨h0, h1, h2⟩ := pv_iff.1 hv
    have hm := maskR_c h0 h1
    have he := and_val (a := x) (n := p.len.toNat) (by omega) hx
    rw [hv] at hval ⊢
    obtain ⟨a, n⟩ := p
    dsimp only at h0 h1 hm he ⊢
    rw [← he]
    show PureCall Tryd.prog F.ref04_Contains [.agg [.int .u32 (a : Int), ai n], .int .u32 (x : Int)] _
    refine contractS fits K.ref04_Contains ?_
    repeat' (first
      | contradiction
      | ((with_reducible refine step ?_); conv => whnf) | ((with_reducible refine br_dec (fun h => ?_) (fun h => ?_)) <;> try (exfalso; omega)) | ((with_reducible refine br_ndec (fun h => ?_) (fun h => ?_)) <;> try (exfalso; omega)) | (with_reducible refine br_not (fun h => ?_) (fun h => ?_)) | (with_reducible refine And.intro (fun h => ?_) (fun h => ?_))
      | (refine call_pure hval rfl rfl ?_; conv => whnf)
      | (refine call_pure hm rfl rfl ?_; conv => whnf)
      | fail)
    all_goals first | rfl | (exfalso; simp_all; done)
  · rw [Bool.not_eq_true] at hv
    rw [hv] at hval ⊢
    obtain ⟨a, n⟩ := p
    show PureCall Tryd.prog F.ref04_Contains [.agg [.int .u32 (a : Int), ai n], .int .u32 (x : Int)] _
    refine contractS fits K.ref04_Contains ?_
    repeat' (first
      | contradiction
      | ((with_reducible refine step ?_); conv => whnf) | ((with_reducible refine br_dec (fun h => ?_) (fun h => ?_)) <;> try (exfalso; omega)) | ((with_reducible refine br_ndec (fun h => ?_) (fun h => ?_)) <;> try (exfalso; omega)) | (with_reducible refine br_not (fun h => ?_) (fun h => ?_)) | (with_reducible refine And.intro (fun h => ?_) (fun h => ?_))
      | (refine call_pure hval rfl rfl ?_; conv => whnf)
      | fail)
    all_goals first | rfl | (exfalso; simp_all; done)
theorem covPx_c {p q : Pfx} (ha : p.addr < 2 ^ 32) (hb : q.addr < 2 ^ 32) : PureCall Tryd.prog F.prefix_Covers [.agg p.enc, .agg q.enc] (.bool (pcov p q)) := by
  have hval := validPx_c hb
  have hcon := conPx_c (p := p) (x := q.addr) ha hb
  unfold pcov
  generalize pv q = v at hval ⊢
  generalize pcon p q.addr = c at hcon ⊢
  obtain ⟨a, n⟩ := p
  obtain ⟨b, m⟩ := q
  dsimp only at hcon ⊢
  show PureCall Tryd.prog F.prefix_Covers [.agg [.int .u32 (a : Int), ai n], .agg [.int .u32 (b : Int), ai m]] _
  cases v <;> cases c
  all_goals
    refine contractS fits K.prefix_Covers ?_
    repeat' (first
      | contradiction
      | ((with_reducible refine step ?_); conv => whnf) | ((with_reducible refine br_dec (fun h => ?_) (fun h => ?_)) <;> try (exfalso; omega)) | ((with_reducible refine br_ndec (fun h => ?_) (fun h => ?_)) <;> try (exfalso; omega)) | (with_reducible refine br_not (fun h => ?_) (fun h => ?_)) | (with_reducible refine And.intro (fun h => ?_) (fun h => ?_))
      | (refine call_pure hval rfl rfl ?_; conv => whnf)
      | (refine call_pure hcon rfl rfl ?_; conv => whnf)
      | fail)
    all_goals first | rfl | (refine congrArg AV.bool ?_; simp_all; done)
theorem covPx4_c {p q : Pfx} (ha : p.addr < 2 ^ 32) (hb : q.addr < 2 ^ 32) : PureCall Tryd.prog F.ref04_Covers [.agg p.enc, .agg q.enc] (.bool (pcov p q)) := by
  have hval := validPx4_c hb
  have hcon := conPx4_c (p := p) (x := q.addr) ha hb
  unfold pcov
  generalize pv q = v at hval ⊢
  generalize pcon p q.addr = c at hcon ⊢
  obtain ⟨a, n⟩ := p
  obtain ⟨b, m⟩ := q
  dsimp only at hcon ⊢
  show PureCall Tryd.prog F.ref04_Covers [.agg [.int .u32 (a : Int), ai n], .agg [.int .u32 (b : Int), ai m]] _
  cases v <;> cases c
  all_goals
    refine contractS fits K.ref04_Covers ?_
    repeat' (first
      | contradiction
      | ((with_reducible refine step ?_); conv => whnf) | ((with_reducible refine br_dec (fun h => ?_) (fun h => ?_)) <;> try (exfalso; omega)) | ((with_reducible refine br_ndec (fun h => ?_) (fun h => ?_)) <;> try (exfalso; omega)) | (with_reducible refine br_not (fun h => ?_) (fun h => ?_)) | (with_reducible refine And.intro (fun h => ?_) (fun h => ?_))
      | (refine call_pure hval rfl rfl ?_; conv => whnf)
      | (refine call_pure hcon rfl rfl ?_; conv => whnf)
      | fail)
    all_goals first | rfl | (refine congrArg AV.bool ?_; simp_all; done)
/-- the halves of a prefix; that of which it is a half -/
def pspl (p : Pfx) : Pfx × Pfx × Int := if pv p then if p.len = 32 then (⟨0, 0⟩, ⟨0, 0⟩, 2) else (⟨p.addr, p.len + 1⟩, ⟨p.addr + 2 ^ (31 - p.len.toNat), p.len + 1⟩, 0) else (⟨0, 0⟩, ⟨0, 0⟩, 1)
def ppar (p : Pfx) : Pfx × Int := if pv p then if p.len = 0 then (⟨0, 0⟩, 2) else (⟨mk p.addr (p.len - 1).toNat, p.len - 1⟩, 0) else (⟨0, 0⟩, 1)
end Go.Proofs.YtllpenkgaomdfaaDoor.Vm
/- Contracts: prefixes: Split, Parent, Compare; the examples. -/
set_option linter.all false
namespace Go.Proofs.YtllpenkgaomdfaaDoor.Vm
open Go Go.RowKit
set_option maxRecDepth 100000
set_option maxHeartbeats 4000000
theorem splPx_c {p : Pfx} (ha : p.addr < 2 ^ 32) : PureCall Tryd.prog F.prefix_Split [.agg p.enc] (.tuple [.agg (pspl p).1.enc, .agg (pspl p).2.1.enc, ai (pspl p).2.2]) := by
  have hval := validPx_c ha
  unfold pspl
  by_cases hv : pv p = true
  · obtain ⟨h0, h1, h2⟩ := pv_iff.1 hv
    rw [if_pos hv]
    rw [hv] at hval
    obtain ⟨a, n⟩ := p
    dsimp only at h0 h1 h2 ha ⊢
    show PureCall Tryd.prog F.prefix_Split [.agg [.int .u32 (a : Int), ai n]] _
    have hw : n ≠ 32 → (0 : Int) ≤ IntKind.i64.wrap (31 - n) := fun h => by rw [wrap_in (by omega)]; omega
    have hx := fun h : n ≠ 32 => hi_val' h0 (show n < 32 by omega) ha h2
    refine contractS fits K.prefix_Split ?_
    repeat' (first
      | contradiction
      | ((with_reducible refine step ?_); conv => whnf) | ((with_reducible refine br_dec (fun h => ?_) (fun h => ?_)) <;> try (exfalso; omega)) | ((with_reducible refine br_ndec (fun h => ?_) (fun h => ?_)) <;> try (exfalso; omega)) | (with_reducible refine br_not (fun h => ?_) (fun h => ?_)) | (with_reducible refine And.intro (fun h => ?_) (fun h => ?_))
      | (refine call_pure hval rfl rfl ?_; conv => whnf)
      | (refine And.intro (hw (by omega)) ?_; conv => whnf)
      | fail)
    · rw [if_pos (by assumption)]; rfl
    · rw [if_neg (by assumption)]
      dsimp only [Pfx.enc]
      rw [wrap_in (n := n + 1) (by omega), ← hx (by assumption)]
  · rw [if_neg hv]
    rw [Bool.not_eq_true] at hv
    rw [hv] at hval
    obtain ⟨a, n⟩ := p
    show PureCall Tryd.prog F.prefix_Split [.agg [.int .u32 (a : Int), ai n]] _
    refine contractS fits K.prefix_Split ?_
    repeat' (first
      | contradiction
      | ((with_reducible refine step ?_); conv => whnf) | ((with_reducible refine br_dec (fun h => ?_) (fun h => ?_)) <;> try (exfalso; omega)) | ((with_reducible refine br_ndec (fun h => ?_) (fun h => ?_)) <;> try (exfalso; omega)) | (with_reducible refine br_not (fun h => ?_) (fun h => ?_)) | (with_reducible refine And.intro (fun h => ?_) (fun h => ?_))
      | (refine call_pure hval rfl rfl ?_; conv => whnf)
      | fail)
    all_goals first | rfl | (exfalso; simp_all; done)
theorem splPx4_c {p : Pfx} (ha : p.addr < 2 ^ 32) : PureCall Tryd.prog F.ref04_Split [.agg p.enc] (.tuple [.agg (pspl p).1.enc, .agg (pspl p).2.1.enc, ai (pspl p).2.2]) := by
  have hval := validPx4_c ha
  unfold pspl
  by_cases hv : pv p = true
  · obtain ⟨h0, h1, h2⟩ := pv_iff.1 hv
    rw [if_pos hv]
    rw [hv] at hval
    obtain ⟨a, n⟩ := p
    dsimp only at h0 h1 h2 ha ⊢
    show PureCall Tryd.prog F.ref04_Split [.agg [.int .u32 (a : Int), ai n]] _
    have hw : n ≠ 32 → (0 : Int) ≤ IntKind.u64.wrap (IntKind.i64.wrap (31 - n)) := fun h => by rw [wrap_in (by omega), wrap_u64 (by omega) (by omega)]; omega
    have hx := fun h : n ≠ 32 => hi_val h0 (show n < 32 by omega) ha h2
    refine contractS fits K.ref04_Split ?_
    repeat' (first
      | contradiction
      | ((with_reducible refine step ?_); conv => whnf) | ((with_reducible refine br_dec (fun h => ?_) (fun h => ?_)) <;> try (exfalso; omega)) | ((with_reducible refine br_ndec (fun h => ?_) (fun h => ?_)) <;> try (exfalso; omega)) | (with_reducible refine br_not (fun h => ?_) (fun h => ?_)) | (with_reducible refine And.intro (fun h => ?_) (fun h => ?_))
      | (refine call_pure hval rfl rfl ?_; conv => whnf)
      | (refine And.intro (hw (by omega)) ?_; conv => whnf)
      | fail)
    · rw [if_pos (by assumption)]; rfl
    · rw [if_neg (by assumption)]
      dsimp only [Pfx.enc]
      rw [wrap_in (n := n + 1) (by omega), ← hx (by assumption)]
  · rw [if_neg hv]
    rw [Bool.not_eq_true] at hv
    rw [hv] at hval
    obtain ⟨a, n⟩ := p
    show PureCall Tryd.prog F.ref04_Split [.agg [.int .u32 (a : Int), ai n]] _
    refine contractS fits K.ref04_Split ?_
    repeat' (first
      | contradiction
      | ((with_reducible refine step ?_); conv => whnf) | ((with_reducible refine br_dec (fun h => ?_) (fun h => ?_)) <;> try (exfalso; omega)) | ((with_reducible refine br_ndec (fun h => ?_) (fun h => ?_)) <;> try (exfalso; omega)) | (with_reducible refine br_not (fun h => ?_) (fun h => ?_)) | (with_reducible refine And.intro (fun h => ?_) (fun h => ?_))
      | (refine call_pure hval rfl rfl ?_; conv => whnf)
      | fail)
    all_goals first | rfl | (exfalso; simp_all; done)
theorem parPx_c {p : Pfx} (ha : p.addr < 2 ^ 32) : PureCall Tryd.prog F.prefix_Parent [.agg p.enc] (.tuple [.agg (ppar p).1.enc, ai (ppar p).2]) := by
  have hval := validPx_c ha
  unfold ppar
  by_cases hv : pv p = true
  · obtain ⟨h0, h1, h2⟩ := pv_iff.1 hv
    rw [if_pos hv]
    rw [hv] at hval
    obtain ⟨a, n⟩ := p
    dsimp only at h0 h1 h2 ha ⊢
    show PureCall Tryd.prog F.prefix_Parent [.agg [.int .u32 (a : Int), ai n]] _
    have hm := fun h : ¬ n = 0 => maskP_c (a := a) (n := n - 1) (by omega) (by omega) ha
    have he := fun h : ¬ n = 0 => (show IntKind.i64.wrap (n - 1) = n - 1 from wrap_in (by omega))
    refine contractS fits K.prefix_Parent ?_
    repeat' (first
      | contradiction
      | ((with_reducible refine step ?_); conv => whnf) | ((with_reducible refine br_dec (fun h => ?_) (fun h => ?_)) <;> try (exfalso; omega)) | ((with_reducible refine br_ndec (fun h => ?_) (fun h => ?_)) <;> try (exfalso; omega)) | (with_reducible refine br_not (fun h => ?_) (fun h => ?_)) | (with_reducible refine And.intro (fun h => ?_) (fun h => ?_))
      | (refine call_pure hval rfl rfl ?_; conv => whnf)
      | (refine call_pure (hm (by assumption)) (congrArg (fun x => [AV.int .u32 (a : Int), ai x]) (he (by assumption))) rfl ?_; conv => whnf)
      | fail)
    · rw [if_pos (by assumption)]; rfl
    · rw [if_neg (by assumption), he (by assumption)]; rfl
  · rw [if_neg hv]
    rw [Bool.not_eq_true] at hv
    rw [hv] at hval
    obtain ⟨a, n⟩ := p
    show PureCall Tryd.prog F.prefix_Parent [.agg [.int .u32 (a : Int), ai n]] _
    refine contractS fits K.prefix_Parent ?_
    repeat' (first
      | contradiction
      | ((with_reducible refine step ?_); conv => whnf) | ((with_reducible refine br_dec (fun h => ?_) (fun h => ?_)) <;> try (exfalso; omega)) | ((with_reducible refine br_ndec (fun h => ?_) (fun h => ?_)) <;> try (exfalso; omega)) | (with_reducible refine br_not (fun h => ?_) (fun h => ?_)) | (with_reducible refine And.intro (fun h => ?_) (fun h => ?_))
      | (refine call_pure hval rfl rfl ?_; conv => whnf)
      | fail)
    all_goals first | rfl | (exfalso; simp_all; done)
theorem parPx4_c {p : Pfx} (ha : p.addr < 2 ^ 32) : PureCall Tryd.prog F.ref04_Parent [.agg p.enc] (.tuple [.agg (ppar p).1.enc, ai (ppar p).2]) := by
  have hval := validPx4_c ha
  unfold ppar
  by_cases hv : pv p = true
  · obtain ⟨h0, h1, h2⟩ := pv_iff.1 hv
    rw [if_pos hv]
    rw [hv] at hval
    obtain ⟨a, n⟩ := p
    dsimp only at h0 h1 h2 ha ⊢
    show PureCall Tryd.prog F.ref04_Parent [.agg [.int .u32 (a : Int), ai n]] _
    have hm := fun h : ¬ n = 0 => maskR_c (n := n - 1) (by omega) (by omega)
    have he := fun h : ¬ n = 0 => (show IntKind.i64.wrap (n - 1) = n - 1 from wrap_in (by omega))
    have hx := fun h : ¬ n = 0 => and_val (a := a) (n := (n - 1).toNat) (by omega) ha
    refine contractS fits K.ref04_Parent ?_
    repeat' (first
      | contradiction
      | ((with_reducible refine step ?_); conv => whnf) | ((with_reducible refine br_dec (fun h => ?_) (fun h => ?_)) <;> try (exfalso; omega)) | ((with_reducible refine br_ndec (fun h => ?_) (fun h => ?_)) <;> try (exfalso; omega)) | (with_reducible refine br_not (fun h => ?_) (fun h => ?_)) | (with_reducible refine And.intro (fun h => ?_) (fun h => ?_))
      | (refine call_pure hval rfl rfl ?_; conv => whnf)
      | (refine call_pure (hm (by assumption)) (congrArg (fun x => [ai x]) (he (by assumption))) rfl ?_; conv => whnf)
      | fail)
    · rw [if_pos (by assumption)]; rfl
    · rw [if_neg (by assumption), he (by assumption)]
      dsimp only [Pfx.enc]
      rw [← hx (by assumption)]
  · rw [if_neg hv]
    rw [Bool.not_eq_true] at hv
    rw [hv] at hval
    obtain ⟨a, n⟩ := p
    show PureCall Tryd.prog F.ref04_Parent [.agg [.int .u32 (a : Int), ai n]] _
    refine contractS fits K.ref04_Parent ?_
    repeat' (first
      | contradiction
      | ((with_reducible refine step ?_); conv => whnf) | ((with_reducible refine br_dec (fun h => ?_) (fun h => ?_)) <;> try (exfalso; omega)) | ((with_reducible refine br_ndec (fun h => ?_) (fun h => ?_)) <;> try (exfalso; omega)) | (with_reducible refine br_not (fun h => ?_) (fun h => ?_)) | (with_reducible refine And.intro (fun h => ?_) (fun h => ?_))
      | (refine call_pure hval rfl rfl ?_; conv => whnf)
      | fail)
    all_goals first | rfl | (exfalso; simp_all; done)
/-- the order of two numbers -/
def cmpV (a b : Int) : Int := if a < b then -1 else if a > b then 1 else 0
def pcmp (p q : Pfx) : Int := if cmpV p.addr q.addr = 0 then cmpV p.len q.len else cmpV p.addr q.addr
theorem nanU_c (a : Int) : PureCall Tryd.prog F.cmp_isNaN_uint32 [.int .u32 a] (.bool false) := by
  refine contractS fits K.cmp_isNaN_uint32 ?_
  repeat' (first
      | contradiction
      | ((with_reducible refine step ?_); conv => whnf) | ((with_reducible refine br_dec (fun h => ?_) (fun h => ?_)) <;> try (exfalso; omega)) | ((with_reducible refine br_ndec (fun h => ?_) (fun h => ?_)) <;> try (exfalso; omega)) | (with_reducible refine br_not (fun h => ?_) (fun h => ?_)) | (with_reducible refine And.intro (fun h => ?_) (fun h => ?_))
      | fail)
  all_goals first | rfl | (refine congrArg AV.bool ?_; simp; done)
theorem nanI_c (a : Int) : PureCall Tryd.prog F.cmp_isNaN_int [ai a] (.bool false) := by
  refine contractS fits K.cmp_isNaN_int ?_
  repeat' (first
      | contradiction
      | ((with_reducible refine step ?_); conv => whnf) | ((with_reducible refine br_dec (fun h => ?_) (fun h => ?_)) <;> try (exfalso; omega)) | ((with_reducible refine br_ndec (fun h => ?_) (fun h => ?_)) <;> try (exfalso; omega)) | (with_reducible refine br_not (fun h => ?_) (fun h => ?_)) | (with_reducible refine And.intro (fun h => ?_) (fun h => ?_))
      | fail)
  all_goals first | rfl | (refine congrArg AV.bool ?_; simp; done)
theorem cmpU_c (a b : Int) : PureCall Tryd.prog F.cmp_Compare_uint32 [.int .u32 a, .int .u32 b] (ai (cmpV a b)) := by
  have h1 := nanU_c a
  have h2 := nanU_c b
  refine contractS fits K.cmp_Compare_uint32 ?_
  repeat' (first
      | contradiction
      | ((with_reducible refine step ?_); conv => whnf) | ((with_reducible refine br_dec (fun h => ?_) (fun h => ?_)) <;> try (exfalso; omega)) | ((with_reducible refine br_ndec (fun h => ?_) (fun h => ?_)) <;> try (exfalso; omega)) | (with_reducible refine br_not (fun h => ?_) (fun h => ?_)) | (with_reducible refine And.intro (fun h => ?_) (fun h => ?_))
      | (refine call_pure h1 rfl rfl ?_; conv => whnf)
      | (refine call_pure h2 rfl rfl ?_; conv => whnf)
      | fail)
  all_goals first | (rw [cmpV, if_pos (by assumption)]; done) | (rw [cmpV, if_neg (by assumption), if_pos (by assumption)]; done) | (rw [cmpV, if_neg (by assumption), if_neg (by assumption)]; done)
theorem cmpI_c (a b : Int) : PureCall Tryd.prog F.cmp_Compare_int [ai a, ai b] (ai (cmpV a b)) := by
  have h1 := nanI_c a
  have h2 := nanI_c b
  refine contractS fits K.cmp_Compare_int ?_
  repeat' (first
      | contradiction
      | ((with_reducible refine step ?_); conv => whnf) | ((with_reducible refine br_dec (fun h => ?_) (fun h => ?_)) <;> try (exfalso; omega)) | ((with_reducible refine br_ndec (fun h => ?_) (fun h => ?_)) <;> try (exfalso; omega)) | (with_reducible refine br_not (fun h => ?_) (fun h => ?_)) | (with_reducible refine And.intro (fun h => ?_) (fun h => ?_))
      | (refine call_pure h1 rfl rfl ?_; conv => whnf)
      | (refine call_pure h2 rfl rfl ?_; conv => whnf)
      | fail)
  all_goals first | (rw [cmpV, if_pos (by assumption)]; done) | (rw [cmpV, if_neg (by assumption), if_pos (by assumption)]; done) | (rw [cmpV, if_neg (by assumption), if_neg (by assumption)]; done)
theorem or2_c (a b : Int) : PureCall Tryd.prog F.cmp_Or_int [asl [[ai a], [ai b]]] (ai (if a = 0 then b else a)) := by
  refine contractS fits K.cmp_Or_int ?_
  repeat' (first
      | contradiction
      | ((with_reducible refine step ?_); conv => whnf) | ((with_reducible refine br_dec (fun h => ?_) (fun h => ?_)) <;> try (exfalso; omega)) | ((with_reducible refine br_ndec (fun h => ?_) (fun h => ?_)) <;> try (exfalso; omega)) | (with_reducible refine br_not (fun h => ?_) (fun h => ?_)) | (with_reducible refine And.intro (fun h => ?_) (fun h => ?_))
      | (refine loop_fuelD 3 ?_; conv => whnf)
      | (refine ⟨trivial, by decide, _, rfl, rfl, ?_⟩; conv => whnf)
      | (exact absurd (show IntKind.i64.wrap (0 + 1) < ((2 : Nat) : Int) by decide) h)
      | fail)
  all_goals first | (rw [if_pos (by assumption)]; simp_all; done) | (rw [if_neg (by assumption)]; done) | (simp_all; done)
theorem cmpPx_c (p q : Pfx) : PureCall Tryd.prog F.prefix_Compare [.agg p.enc, .agg q.enc] (ai (pcmp p q)) := by
  unfold pcmp
  have h1 := cmpU_c p.addr q.addr
  have h2 := cmpI_c p.len q.len
  have h3 := or2_c (cmpV p.addr q.addr) (cmpV p.len q.len)
  obtain ⟨a, n⟩ := p
  obtain ⟨b, m⟩ := q
  dsimp only at h1 h2 h3 ⊢
  generalize cmpV (a : Int) (b : Int) = x at *
  generalize cmpV n m = y at *
  show PureCall Tryd.prog F.prefix_Compare [.agg [.int .u32 (a : Int), ai n], .agg [.int .u32 (b : Int), ai m]] _
  refine contractS fits K.prefix_Compare ?_
  repeat' (first
      | contradiction
      | ((with_reducible refine step ?_); conv => whnf) | ((with_reducible refine br_dec (fun h => ?_) (fun h => ?_)) <;> try (exfalso; omega)) | ((with_reducible refine br_ndec (fun h => ?_) (fun h => ?_)) <;> try (exfalso; omega)) | (with_reducible refine br_not (fun h => ?_) (fun h => ?_)) | (with_reducible refine And.intro (fun h => ?_) (fun h => ?_))
      | (refine call_pure h1 rfl rfl ?_; conv => whnf)
      | (refine call_pure h2 rfl rfl ?_; conv => whnf)
      | (refine call_pure h3 rfl rfl ?_; conv => whnf)
      | fail)
  all_goals first | rfl
theorem cmpPx4_c (p q : Pfx) : PureCall Tryd.prog F.ref04_Compare [.agg p.enc, .agg q.enc] (ai (pcmp p q)) := by
  unfold pcmp cmpV
  obtain ⟨a, n⟩ := p
  obtain ⟨b, m⟩ := q
  dsimp only
  show PureCall Tryd.prog F.ref04_Compare [.agg [.int .u32 (a : Int), ai n], .agg [.int .u32 (b : Int), ai m]] _
  refine contractS fits K.ref04_Compare ?_
  repeat' (first
      | contradiction
      | ((with_reducible refine step ?_); conv => whnf) | ((with_reducible refine br_dec (fun h => ?_) (fun h => ?_)) <;> try (exfalso; omega)) | ((with_reducible refine br_ndec (fun h => ?_) (fun h => ?_)) <;> try (exfalso; omega)) | (with_reducible refine br_not (fun h => ?_) (fun h => ?_)) | (with_reducible refine And.intro (fun h => ?_) (fun h => ?_))
      | fail)
  all_goals
    refine congrArg (AV.int .i64) ?_
    try simp only [Bool.and_true, Bool.and_eq_true, decide_eq_true_eq, Bool.and_eq_false_iff, decide_eq_false_iff_not] at *
    repeat' split
    all_goals first | rfl | omega | (simp_all; done)
/-- the examples -/
theorem pa1 : pfxParse [49, 48, 46, 49, 46, 48, 46, 48, 47, 49, 54] = (⟨167837696, 16⟩, 0) := by
  have h : pfxText ⟨167837696, 16⟩ = [49, 48, 46, 49, 46, 48, 46, 48, 47, 49, 54] := by decide +kernel
  rw [← h]; exact pfxParse_of (by decide +kernel) (by decide)
theorem pa2 : pfxParse [49, 48, 46, 49, 46, 50, 46, 48, 47, 50, 52] = (⟨167838208, 24⟩, 0) := by
  have h : pfxText ⟨167838208, 24⟩ = [49, 48, 46, 49, 46, 50, 46, 48, 47, 50, 52] := by decide +kernel
  rw [← h]; exact pfxParse_of (by decide +kernel) (by decide)
theorem awake4_c : PureCall Tryd.prog F.law04_awake [] (.bool true) := by
  have c1 := parsePx_c [49, 48, 46, 49, 46, 48, 46, 48, 47, 49, 54] (by decide)
  have c2 := parsePx_c [49, 48, 46, 49, 46, 50, 46, 48, 47, 50, 52] (by decide)
  rw [pa1] at c1
  rw [pa2] at c2
  have c3 := splPx_c (p := ⟨167772160, 8⟩) (by decide)
  rw [show pspl ⟨167772160, 8⟩ = (⟨167772160, 9⟩, ⟨176160768, 9⟩, 0) by decide +kernel] at c3
  have c4 := covPx_c (p := ⟨167837696, 16⟩) (q := ⟨167838208, 24⟩) (by decide) (by decide)
  rw [show pcov ⟨167837696, 16⟩ ⟨167838208, 24⟩ = true by decide +kernel] at c4
  have c5 := covPx_c (p := ⟨167838208, 24⟩) (q := ⟨167837696, 16⟩) (by decide) (by decide)
  rw [show pcov ⟨167838208, 24⟩ ⟨167837696, 16⟩ = false by decide +kernel] at c5
  have c6 := textPx_c (p := ⟨167837696, 16⟩) (by decide)
  rw [show pfxText ⟨167837696, 16⟩ = [49, 48, 46, 49, 46, 48, 46, 48, 47, 49, 54] by decide +kernel] at c6
  refine contractS fits K.law04_awake ?_
  repeat' (first
      | contradiction
      | ((with_reducible refine step ?_); conv => whnf) | ((with_reducible refine br_dec (fun h => ?_) (fun h => ?_)) <;> try (exfalso; omega)) | ((with_reducible refine br_ndec (fun h => ?_) (fun h => ?_)) <;> try (exfalso; omega)) | (with_reducible refine br_not (fun h => ?_) (fun h => ?_)) | (with_reducible refine And.intro (fun h => ?_) (fun h => ?_))
      | (refine call_pure c1 rfl rfl ?_; conv => whnf)
      | (refine call_pure c2 rfl rfl ?_; conv => whnf)
      | (refine call_pure c3 rfl rfl ?_; conv => whnf)
      | (refine call_pure c4 rfl rfl ?_; conv => whnf)
      | (refine call_pure c5 rfl rfl ?_; conv => whnf)
      | (refine call_pure c6 rfl rfl ?_; conv => whnf)
      | fail)
  all_goals first | rfl
end Go.Proofs.YtllpenkgaomdfaaDoor.Vm
/- PrefixText, Parse, Nested, Split, Contains: the statements. -/
set_option linter.all false
namespace Go.Proofs.YtllpenkgaomdfaaDoor.Vm
open Go Go.RowKit
set_option maxRecDepth 100000
set_option maxHeartbeats 4000000
theorem of_int {a : Int} (h0 : 0 ≤ a) (h1 : a ≤ 4294967295) : ∃ n : Nat, a = n ∧ n < 2 ^ 32 := ⟨a.toNat, by omega, by omega⟩
theorem sPxText_c {a : Int} (h : 0 ≤ a ∧ a ≤ 4294967295) (n : Int) : PureCall Tryd.prog F.law04_PrefixText [.agg [.int .u32 a, ai n]] (.bool true) := by
  obtain ⟨a, rfl, ha⟩ := of_int h.1 h.2
  clear h
  have c1 := textPx_c (p := ⟨a, n⟩) ha
  have c2 := textPx4_c (p := ⟨a, n⟩) ha
  have c3 := validPx_c (p := ⟨a, n⟩) ha
  have c4 := validPx4_c (p := ⟨a, n⟩) ha
  have hl := pfxText_len ⟨a, n⟩
  have c5 := parsePx_c (pfxText ⟨a, n⟩) (by omega)
  by_cases hv : pv ⟨a, n⟩ = true
  · rw [pfxParse_of hv ha] at c5
    rw [hv] at c3 c4
    generalize pfxText ⟨a, n⟩ = t at *
    refine contractS fits K.law04_PrefixText ?_
    repeat' (first
      | contradiction
      | ((with_reducible refine step ?_); conv => whnf) | ((with_reducible refine br_dec (fun h => ?_) (fun h => ?_)) <;> try (exfalso; omega)) | ((with_reducible refine br_ndec (fun h => ?_) (fun h => ?_)) <;> try (exfalso; omega)) | (with_reducible refine br_not (fun h => ?_) (fun h => ?_)) | (with_reducible refine And.intro (fun h => ?_) (fun h => ?_))
      | (refine call_pure awake4_c rfl rfl ?_; conv => whnf)
      | (refine call_pure c1 rfl rfl ?_; conv => whnf)
      | (refine call_pure c2 rfl rfl ?_; conv => whnf)
      | (refine call_pure c3 rfl rfl ?_; conv => whnf)
      | (refine call_pure c4 rfl rfl ?_; conv => whnf)
      | (refine call_pure c5 rfl rfl ?_; conv => whnf)
      | fail)
    all_goals first | rfl | (exfalso; simp_all; done) | (refine congrArg AV.bool ?_; simp; done)
  · have ht : pfxText ⟨a, n⟩ = [] := by rw [pfxText, if_neg hv]
    rw [Bool.not_eq_true] at hv
    rw [ht] at c1 c2 c5
    rw [show pfxParse [] = (⟨0, 0⟩, 3) from by rw [pfxParse, if_neg (fun q => q.1 rfl)]] at c5
    rw [hv] at c3 c4
    refine contractS fits K.law04_PrefixText ?_
    repeat' (first
      | contradiction
      | ((with_reducible refine step ?_); conv => whnf) | ((with_reducible refine br_dec (fun h => ?_) (fun h => ?_)) <;> try (exfalso; omega)) | ((with_reducible refine br_ndec (fun h => ?_) (fun h => ?_)) <;> try (exfalso; omega)) | (with_reducible refine br_not (fun h => ?_) (fun h => ?_)) | (with_reducible refine And.intro (fun h => ?_) (fun h => ?_))
      | (refine call_pure awake4_c rfl rfl ?_; conv => whnf)
      | (refine call_pure c1 rfl rfl ?_; conv => whnf)
      | (refine call_pure c2 rfl rfl ?_; conv => whnf)
      | (refine call_pure c3 rfl rfl ?_; conv => whnf)
      | (refine call_pure c4 rfl rfl ?_; conv => whnf)
      | (refine call_pure c5 rfl rfl ?_; conv => whnf)
      | fail)
    all_goals first | rfl | (exfalso; simp_all; done) | (refine congrArg AV.bool ?_; simp; done)
theorem sPxParse_c (l : List UInt8) (hl : l.length ≤ 140737488355328) : PureCall Tryd.prog F.law04_PrefixParse [.str l] (.bool true) := by
  by_cases hb : l.length ≤ 100
  · have c1 := parsePx_c l (by omega)
    have c2 := parsePx4_c l (by omega)
    generalize pfxParse l = q at c1 c2
    obtain ⟨⟨a, n⟩, e⟩ := q
    dsimp only at c1 c2
    refine contractS fits K.law04_PrefixParse ?_
    repeat' (first
      | contradiction
      | ((with_reducible refine step ?_); conv => whnf) | ((with_reducible refine br_dec (fun h => ?_) (fun h => ?_)) <;> try (exfalso; omega)) | ((with_reducible refine br_ndec (fun h => ?_) (fun h => ?_)) <;> try (exfalso; omega)) | (with_reducible refine br_not (fun h => ?_) (fun h => ?_)) | (with_reducible refine And.intro (fun h => ?_) (fun h => ?_))
      | (refine call_pure awake4_c rfl rfl ?_; conv => whnf)
      | (refine call_pure c1 rfl rfl ?_; conv => whnf)
      | (refine call_pure c2 rfl rfl ?_; conv => whnf)
      | fail)
    all_goals first | rfl | (exfalso; simp_all; done) | (refine congrArg AV.bool ?_; simp_all; done)
  · refine contractS fits K.law04_PrefixParse ?_
    repeat' (first
      | contradiction
      | ((with_reducible refine step ?_); conv => whnf) | ((with_reducible refine br_dec (fun h => ?_) (fun h => ?_)) <;> try (exfalso; omega)) | ((with_reducible refine br_ndec (fun h => ?_) (fun h => ?_)) <;> try (exfalso; omega)) | (with_reducible refine br_not (fun h => ?_) (fun h => ?_)) | (with_reducible refine And.intro (fun h => ?_) (fun h => ?_))
      | (refine call_pure awake4_c rfl rfl ?_; conv => whnf)
      | fail)
    all_goals first | rfl | (exfalso; omega)
theorem sPxContains_c {a b : Int} (h : 0 ≤ a ∧ a ≤ 4294967295) (n : Int) (h2 : 0 ≤ b ∧ b ≤ 4294967295) (m : Int) {x : Int} (hx0 : 0 ≤ x ∧ x ≤ 4294967295) : PureCall Tryd.prog F.law04_PrefixContains [.agg [.int .u32 a, ai n], .agg [.int .u32 b, ai m], .int .u32 x] (.bool true) := by
  obtain ⟨a, rfl, ha⟩ := of_int h.1 h.2
  obtain ⟨b, rfl, hb⟩ := of_int h2.1 h2.2
  obtain ⟨x, rfl, hx⟩ := of_int hx0.1 hx0.2
  clear h h2 hx0
  have c1 := conPx_c (p := ⟨a, n⟩) (x := x) ha hx
  have c2 := conPx4_c (p := ⟨a, n⟩) (x := x) ha hx
  have c3 := covPx_c (p := ⟨a, n⟩) (q := ⟨b, m⟩) ha hb
  have c4 := covPx4_c (p := ⟨a, n⟩) (q := ⟨b, m⟩) ha hb
  have c5 := cmpPx_c ⟨a, n⟩ ⟨b, m⟩
  have c6 := cmpPx4_c ⟨a, n⟩ ⟨b, m⟩
  generalize pcon ⟨a, n⟩ x = v at c1 c2
  generalize pcov ⟨a, n⟩ ⟨b, m⟩ = w at c3 c4
  generalize pcmp ⟨a, n⟩ ⟨b, m⟩ = y at c5 c6
  refine contractS fits K.law04_PrefixContains ?_
  repeat' (first
      | contradiction
      | ((with_reducible refine step ?_); conv => whnf) | ((with_reducible refine br_dec (fun h => ?_) (fun h => ?_)) <;> try (exfalso; omega)) | ((with_reducible refine br_ndec (fun h => ?_) (fun h => ?_)) <;> try (exfalso; omega)) | (with_reducible refine br_not (fun h => ?_) (fun h => ?_)) | (with_reducible refine And.intro (fun h => ?_) (fun h => ?_))
      | (refine call_pure awake4_c rfl rfl ?_; conv => whnf)
      | (refine call_pure c1 rfl rfl ?_; conv => whnf)
      | (refine call_pure c2 rfl rfl ?_; conv => whnf)
      | (refine call_pure c3 rfl rfl ?_; conv => whnf)
      | (refine call_pure c4 rfl rfl ?_; conv => whnf)
      | (refine call_pure c5 rfl rfl ?_; conv => whnf)
      | (refine call_pure c6 rfl rfl ?_; conv => whnf)
      | fail)
  all_goals first | rfl | (exfalso; simp_all; done) | (refine congrArg AV.bool ?_; simp_all; done)
theorem sPxNested_c {a b : Int} (h : 0 ≤ a ∧ a ≤ 4294967295) (n : Int) (h2 : 0 ≤ b ∧ b ≤ 4294967295) (m : Int) {x : Int} (hx0 : 0 ≤ x ∧ x ≤ 4294967295) : PureCall Tryd.prog F.law04_PrefixNested [.agg [.int .u32 a, ai n], .agg [.int .u32 b, ai m], .int .u32 x] (.bool true) := by
  obtain ⟨a, rfl, ha⟩ := of_int h.1 h.2
  obtain ⟨b, rfl, hb⟩ := of_int h2.1 h2.2
  obtain ⟨x, rfl, hx⟩ := of_int hx0.1 hx0.2
  clear h h2 hx0
  have v1 := validPx4_c (p := ⟨a, n⟩) ha
  have v2 := validPx4_c (p := ⟨b, m⟩) hb
  have c1 := conPx_c (p := ⟨a, n⟩) (x := x) ha hx
  have c2 := conPx_c (p := ⟨b, m⟩) (x := x) hb hx
  have c3 := covPx_c (p := ⟨a, n⟩) (q := ⟨b, m⟩) ha hb
  have c4 := covPx_c (p := ⟨b, m⟩) (q := ⟨a, n⟩) hb ha
  have c5 := conPx_c (p := ⟨a, n⟩) (x := b) ha hb
  have c6 := conPx_c (p := ⟨b, m⟩) (x := a) hb ha
  have k1 := fun h1 h2 => nested_law (p := ⟨a, n⟩) (q := ⟨b, m⟩) h1 h2
  have k2 := fun h1 h2 => nested_addr (p := ⟨a, n⟩) (q := ⟨b, m⟩) (a := x) h1 h2
  dsimp only at k1
  generalize pv ⟨a, n⟩ = d1 at *
  generalize pv ⟨b, m⟩ = d2 at *
  generalize pcon ⟨a, n⟩ x = d3 at *
  generalize pcon ⟨b, m⟩ x = d4 at *
  generalize pcov ⟨a, n⟩ ⟨b, m⟩ = d5 at *
  generalize pcov ⟨b, m⟩ ⟨a, n⟩ = d6 at *
  generalize pcon ⟨a, n⟩ b = d7 at *
  generalize pcon ⟨b, m⟩ a = d8 at *
  refine contractS fits K.law04_PrefixNested ?_
  repeat' (first
      | contradiction
      | ((with_reducible refine step ?_); conv => whnf) | ((with_reducible refine br_dec (fun h => ?_) (fun h => ?_)) <;> try (exfalso; omega)) | ((with_reducible refine br_ndec (fun h => ?_) (fun h => ?_)) <;> try (exfalso; omega)) | (with_reducible refine br_not (fun h => ?_) (fun h => ?_)) | (with_reducible refine And.intro (fun h => ?_) (fun h => ?_))
      | (refine call_pure awake4_c rfl rfl ?_; conv => whnf)
      | (refine call_pure v1 rfl rfl ?_; conv => whnf)
      | (refine call_pure v2 rfl rfl ?_; conv => whnf)
      | (refine call_pure c1 rfl rfl ?_; conv => whnf)
      | (refine call_pure c2 rfl rfl ?_; conv => whnf)
      | (refine call_pure c3 rfl rfl ?_; conv => whnf)
      | (refine call_pure c4 rfl rfl ?_; conv => whnf)
      | (refine call_pure c5 rfl rfl ?_; conv => whnf)
      | (refine call_pure c6 rfl rfl ?_; conv => whnf)
      | fail)
  all_goals clear v1 v2 c1 c2 c3 c4 c5 c6
  all_goals first | rfl | (exfalso; simp_all; done) | (refine congrArg AV.bool ?_; simp_all; done)
theorem spl_cases (p : Pfx) (ha : p.addr < 2 ^ 32) : (pspl p).1.addr < 2 ^ 32 ∧ (pspl p).2.1.addr < 2 ^ 32 ∧ ((pspl p).2.2 = 0 → ppar (pspl p).1 = (p, 0) ∧ ppar (pspl p).2.1 = (p, 0)) := by
  unfold pspl
  split
  · rename_i hv
    obtain ⟨h0, h1, h2⟩ := pv_iff.1 hv
    split
    · exact ⟨by decide, by decide, fun h => absurd h (by decide)⟩
    · rename_i h3
      have h4 : p.len.toNat < 32 := by omega
      refine ⟨ha, hi_lt h4 h2 ha, fun _ => ?_⟩
      have e1 : (p.len + 1).toNat = p.len.toNat + 1 := by omega
      have e2 : p.len + 1 - 1 = p.len := by omega
      obtain ⟨k1, k2⟩ := hi_mk h4 h2
      have v1 : pv ⟨p.addr, p.len + 1⟩ = true := pv_iff.2 ⟨by show 0 ≤ p.len + 1; omega, by show p.len + 1 ≤ 32; omega, by show mk p.addr (p.len + 1).toNat = p.addr; rw [e1]; exact lo_mk h4 h2⟩
      have v2 : pv ⟨p.addr + 2 ^ (31 - p.len.toNat), p.len + 1⟩ = true := pv_iff.2 ⟨by show 0 ≤ p.len + 1; omega, by show p.len + 1 ≤ 32; omega, by show mk (p.addr + 2 ^ (31 - p.len.toNat)) (p.len + 1).toNat = _; rw [e1]; exact k1⟩
      constructor
      · rw [ppar, if_pos v1, if_neg (by show ¬ p.len + 1 = 0; omega)]
        dsimp only
        rw [e2, h2]
      · rw [ppar, if_pos v2, if_neg (by show ¬ p.len + 1 = 0; omega)]
        dsimp only
        rw [e2, k2]
  · exact ⟨by decide, by decide, fun h => absurd h (by decide)⟩
theorem sPxSplit_c {a : Int} (h : 0 ≤ a ∧ a ≤ 4294967295) (n : Int) : PureCall Tryd.prog F.law04_PrefixSplit [.agg [.int .u32 a, ai n]] (.bool true) := by
  obtain ⟨a, rfl, ha⟩ := of_int h.1 h.2
  clear h
  have c1 := splPx_c (p := ⟨a, n⟩) ha
  have c2 := splPx4_c (p := ⟨a, n⟩) ha
  have c3 := parPx_c (p := ⟨a, n⟩) ha
  have c4 := parPx4_c (p := ⟨a, n⟩) ha
  obtain ⟨l1, l2, hk⟩ := spl_cases ⟨a, n⟩ ha
  have c5 := parPx_c (p := (pspl ⟨a, n⟩).1) l1
  have c6 := parPx_c (p := (pspl ⟨a, n⟩).2.1) l2
  generalize ppar ⟨a, n⟩ = u at c3 c4
  generalize pspl ⟨a, n⟩ = q at *
  obtain ⟨⟨a1, n1⟩, ⟨a2, n2⟩, e⟩ := q
  obtain ⟨⟨a3, n3⟩, e3⟩ := u
  dsimp only at c1 c2 c3 c4 c5 c6 hk
  by_cases he : e = 0
  · obtain ⟨k1, k2⟩ := hk he
    subst he
    rw [k1] at c5
    rw [k2] at c6
    refine contractS fits K.law04_PrefixSplit ?_
    repeat' (first
      | contradiction
      | ((with_reducible refine step ?_); conv => whnf) | ((with_reducible refine br_dec (fun h => ?_) (fun h => ?_)) <;> try (exfalso; omega)) | ((with_reducible refine br_ndec (fun h => ?_) (fun h => ?_)) <;> try (exfalso; omega)) | (with_reducible refine br_not (fun h => ?_) (fun h => ?_)) | (with_reducible refine And.intro (fun h => ?_) (fun h => ?_))
      | (refine call_pure awake4_c rfl rfl ?_; conv => whnf)
      | (refine call_pure c1 rfl rfl ?_; conv => whnf)
      | (refine call_pure c2 rfl rfl ?_; conv => whnf)
      | (refine call_pure c3 rfl rfl ?_; conv => whnf)
      | (refine call_pure c4 rfl rfl ?_; conv => whnf)
      | (refine call_pure c5 rfl rfl ?_; conv => whnf)
      | (refine call_pure c6 rfl rfl ?_; conv => whnf)
      | fail)
    all_goals clear c1 c2 c3 c4 c5 c6 hk k1 k2
    all_goals first | rfl | (exfalso; simp_all; done) | (refine congrArg AV.bool ?_; simp_all; done)
  · refine contractS fits K.law04_PrefixSplit ?_
    repeat' (first
      | contradiction
      | ((with_reducible refine step ?_); conv => whnf) | ((with_reducible refine br_dec (fun h => ?_) (fun h => ?_)) <;> try (exfalso; omega)) | ((with_reducible refine br_ndec (fun h => ?_) (fun h => ?_)) <;> try (exfalso; omega)) | (with_reducible refine br_not (fun h => ?_) (fun h => ?_)) | (with_reducible refine And.intro (fun h => ?_) (fun h => ?_))
      | (refine call_pure awake4_c rfl rfl ?_; conv => whnf)
      | (refine call_pure c1 rfl rfl ?_; conv => whnf)
      | (refine call_pure c2 rfl rfl ?_; conv => whnf)
      | (refine call_pure c3 rfl rfl ?_; conv => whnf)
      | (refine call_pure c4 rfl rfl ?_; conv => whnf)
      | fail)
    all_goals clear c1 c2 c3 c4 c5 c6 hk
    all_goals first | rfl | (exfalso; simp_all; done) | (refine congrArg AV.bool ?_; simp_all; done)
end Go.Proofs.YtllpenkgaomdfaaDoor.Vm
