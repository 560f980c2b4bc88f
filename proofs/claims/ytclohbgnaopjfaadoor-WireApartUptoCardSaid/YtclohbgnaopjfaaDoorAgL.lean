/-
  DERIVED: THE SHELF's CONTRACTS AT THIS DUMP, IN PLAIN WORDS (tools/lay-plain.mjs out of 'TrydShelf.lean', which tools/lay-shelf.mjs wrote): THE SAME DECLARATIONS UNDER THE SAME NAMES: 'import', 'namespace', 'open', 'def', 'theorem' AND NOTHING ELSE: no command of the shelf's: FOR A HAND-IN. Each laying: the table of numbers ('.._ren') and one theorem, a field a fact of the dump's own or the kernel's comparison; each contract: ONE APPLICATION.
-/
import Derived.Shelf.Strings.Builder1
import Derived.Shelf.Spec.SlicesGrow
import Derived.Shelf.SlGeneric
import Derived.Shelf.Strings.SlTrimAscii
import Derived.Shelf.Unicode.ValidAny
import Derived.Shelf.Strings.Builder2
import Derived.Shelf.Strings.OnBuilder
import Derived.Shelf.Strings.Trim
import Derived.Shelf.Small.Utf8
import Derived.Shelf.Small.Strs
import Derived.Shelf.Strings.BuilderF
import Derived.Shelf.Strings.BuilderK
import Derived.Shelf.Utf8.RuneCount
import Derived.Shelf.Strings.Builder2Cap
import Derived.Shelf.Strconv.Itoa0
import Derived.Shelf.Strconv.Itoa1
import Derived.Shelf.LaysM
import Derived.Shelf.Strconv.Itoa2
import Derived.Shelf.Strconv.Itoa3
import Derived.Shelf.Strings.Search1
import Derived.Shelf.Strings.Search2
import Derived.Shelf.Strings.Search3
import Derived.Shelf.Strings.Count
import Derived.Shelf.Strings.Shaped
import Derived.Shelf.Strings.Split
import Derived.Shelf.Strings.Replace
import Derived.Shelf.Strings.SplitShaped
import Derived.Shelf.Unicode.Decode
import Derived.Shelf.Strings.Runes
import Derived.Shelf.Strings.RuneCount
import Derived.Shelf.Strings.AsciiSet
import Derived.Shelf.Unicode.DecodeSlow
import Derived.Shelf.Unicode.DecodeAny
import Derived.Shelf.Unicode.DecodeLast
import Derived.Shelf.Strings.BuilderCap
import Derived.Shelf.Slices.Equal
import Derived.Ground.Names2Prog
import Derived.Shelf.Slices.ReverseS
import Derived.Shelf.Slices.Clone
import Derived.Shelf.Slices.Delete
import Derived.Shelf.Slices.Cells
import Derived.Shelf.Slices.Empties
import Derived.Shelf.Slices.Empties2
import Derived.Ground.SlgnProg
import Derived.Shelf.SlicesE.Clone
import Derived.Test.YtclohbgnaopjfaaDoorProg
namespace Go.Proofs
open Go.Shelf
def Tryd.lays169_ren : Go.Shelf.Ren := ⟨fun | 169 => 54 | n => n, fun | 70 => 98 | 9 => 9 | 0 => 0 | 72 => 101 | 37 => 99 | 127 => 144 | 3 => 3 | 5 => 5 | n => n, fun | n => n⟩
theorem Tryd.lays169 : Go.Proofs.Lays.n169 Tryd.prog Tryd.lays169_ren := {
  mixed := by kernel_rfl
  f169 := Tryd.func54.trans (congrArg some (by kernel_rfl))
  t0 := Tryd.underlying0
  a0 := Tryd.isAgg0
  z0 := Tryd.sizeOf0
  v0 := Tryd.zeroValue0
  t3 := Tryd.underlying3
  a3 := Tryd.isAgg3
  z3 := Tryd.sizeOf3
  v3 := Tryd.zeroValue3
  t9 := Tryd.underlying9
  a9 := Tryd.isAgg9
  z9 := Tryd.sizeOf9
  v9 := Tryd.zeroValue9
  t37 := Tryd.underlying99
  a37 := Tryd.isAgg99
  z37 := Tryd.sizeOf99
  v37 := Tryd.zeroValue99
  t70 := Tryd.underlying98
  a70 := Tryd.isAgg98
  z70 := Tryd.sizeOf98
  v70 := Tryd.zeroValue98
  t72 := Tryd.underlying101
  a72 := Tryd.isAgg101
  z72 := Tryd.sizeOf101
  v72 := Tryd.zeroValue101
  t127 := Tryd.underlying144
  a127 := Tryd.isAgg144
  z127 := Tryd.sizeOf144
  v127 := Tryd.zeroValue144 }
theorem Tryd.Builder_Extra_169 : Builder.Extra Tryd.prog Tryd.lays169_ren := {
  sizeBuilder := by kernel_rfl
  liesBuilder := by kernel_rfl
  t5 := Tryd.underlying5
  a5 := Tryd.isAgg5
  z5 := Tryd.sizeOf5
  v5 := Tryd.zeroValue5
  infoByte := by kernel_rfl
  cellsByte := by kernel_rfl
  sizeByte := by kernel_rfl
  neB5 := by decide }
def Tryd.lays165_ren : Go.Shelf.Ren := ⟨fun | 165 => 109 | 240 => 88 | 241 => 126 | 276 => 110 | 277 => 140 | n => n, fun | 70 => 98 | 3 => 3 | 0 => 0 | 4 => 4 | 9 => 9 | 20 => 20 | 72 => 101 | 37 => 99 | 164 => 162 | 5 => 5 | n => n, fun | n => n⟩
theorem Tryd.lays165 : Go.Proofs.Lays.n165 Tryd.prog Tryd.lays165_ren := {
  mixed := by kernel_rfl
  f165 := Tryd.func109.trans (congrArg some (by kernel_rfl))
  f240 := Tryd.func88.trans (congrArg some (by kernel_rfl))
  f241 := Tryd.func126.trans (congrArg some (by kernel_rfl))
  f276 := Tryd.func110.trans (congrArg some (by kernel_rfl))
  f277 := Tryd.func140.trans (congrArg some (by kernel_rfl))
  t0 := Tryd.underlying0
  a0 := Tryd.isAgg0
  z0 := Tryd.sizeOf0
  v0 := Tryd.zeroValue0
  t3 := Tryd.underlying3
  a3 := Tryd.isAgg3
  z3 := Tryd.sizeOf3
  v3 := Tryd.zeroValue3
  t4 := Tryd.underlying4
  a4 := Tryd.isAgg4
  z4 := Tryd.sizeOf4
  v4 := Tryd.zeroValue4
  t9 := Tryd.underlying9
  a9 := Tryd.isAgg9
  z9 := Tryd.sizeOf9
  v9 := Tryd.zeroValue9
  t20 := Tryd.underlying20
  a20 := Tryd.isAgg20
  z20 := Tryd.sizeOf20
  v20 := Tryd.zeroValue20
  t37 := Tryd.underlying99
  a37 := Tryd.isAgg99
  z37 := Tryd.sizeOf99
  v37 := Tryd.zeroValue99
  t70 := Tryd.underlying98
  a70 := Tryd.isAgg98
  z70 := Tryd.sizeOf98
  v70 := Tryd.zeroValue98
  t72 := Tryd.underlying101
  a72 := Tryd.isAgg101
  z72 := Tryd.sizeOf101
  v72 := Tryd.zeroValue101
  t164 := Tryd.underlying162
  a164 := Tryd.isAgg162
  z164 := Tryd.sizeOf162
  v164 := Tryd.zeroValue162 }
theorem Tryd.Builder_Extra_165 : Builder.Extra Tryd.prog Tryd.lays165_ren := {
  sizeBuilder := by kernel_rfl
  liesBuilder := by kernel_rfl
  t5 := Tryd.underlying5
  a5 := Tryd.isAgg5
  z5 := Tryd.sizeOf5
  v5 := Tryd.zeroValue5
  infoByte := by kernel_rfl
  cellsByte := by kernel_rfl
  sizeByte := by kernel_rfl
  neB5 := by decide }
def Tryd.lays156_ren : Go.Shelf.Ren := ⟨fun | 156 => 87 | 165 => 109 | 166 => 53 | 169 => 54 | 240 => 88 | 241 => 126 | 276 => 110 | 277 => 140 | n => n, fun | 31 => 24 | 9 => 9 | 3 => 3 | 4 => 4 | 0 => 0 | 20 => 20 | 72 => 101 | 76 => 104 | 70 => 98 | 37 => 99 | 75 => 103 | 127 => 144 | 164 => 162 | 5 => 5 | 80 => 106 | n => n, fun | n => n⟩
theorem Tryd.lays156 : Go.Proofs.Lays.n156 Tryd.prog Tryd.lays156_ren := {
  mixed := by kernel_rfl
  f156 := Tryd.func87.trans (congrArg some (by kernel_rfl))
  f165 := Tryd.func109.trans (congrArg some (by kernel_rfl))
  f166 := Tryd.func53.trans (congrArg some (by kernel_rfl))
  f169 := Tryd.func54.trans (congrArg some (by kernel_rfl))
  f240 := Tryd.func88.trans (congrArg some (by kernel_rfl))
  f241 := Tryd.func126.trans (congrArg some (by kernel_rfl))
  f276 := Tryd.func110.trans (congrArg some (by kernel_rfl))
  f277 := Tryd.func140.trans (congrArg some (by kernel_rfl))
  t0 := Tryd.underlying0
  a0 := Tryd.isAgg0
  z0 := Tryd.sizeOf0
  v0 := Tryd.zeroValue0
  t3 := Tryd.underlying3
  a3 := Tryd.isAgg3
  z3 := Tryd.sizeOf3
  v3 := Tryd.zeroValue3
  t4 := Tryd.underlying4
  a4 := Tryd.isAgg4
  z4 := Tryd.sizeOf4
  v4 := Tryd.zeroValue4
  t9 := Tryd.underlying9
  a9 := Tryd.isAgg9
  z9 := Tryd.sizeOf9
  v9 := Tryd.zeroValue9
  t20 := Tryd.underlying20
  a20 := Tryd.isAgg20
  z20 := Tryd.sizeOf20
  v20 := Tryd.zeroValue20
  t31 := Tryd.underlying24
  a31 := Tryd.isAgg24
  z31 := Tryd.sizeOf24
  v31 := Tryd.zeroValue24
  t37 := Tryd.underlying99
  a37 := Tryd.isAgg99
  z37 := Tryd.sizeOf99
  v37 := Tryd.zeroValue99
  t70 := Tryd.underlying98
  a70 := Tryd.isAgg98
  z70 := Tryd.sizeOf98
  v70 := Tryd.zeroValue98
  t72 := Tryd.underlying101
  a72 := Tryd.isAgg101
  z72 := Tryd.sizeOf101
  v72 := Tryd.zeroValue101
  t75 := Tryd.underlying103
  a75 := Tryd.isAgg103
  z75 := Tryd.sizeOf103
  v75 := Tryd.zeroValue103
  t76 := Tryd.underlying104
  a76 := Tryd.isAgg104
  z76 := Tryd.sizeOf104
  v76 := Tryd.zeroValue104
  t127 := Tryd.underlying144
  a127 := Tryd.isAgg144
  z127 := Tryd.sizeOf144
  v127 := Tryd.zeroValue144
  t164 := Tryd.underlying162
  a164 := Tryd.isAgg162
  z164 := Tryd.sizeOf162
  v164 := Tryd.zeroValue162 }
theorem Tryd.Builder_Extra_156 : Builder.Extra Tryd.prog Tryd.lays156_ren := {
  sizeBuilder := by kernel_rfl
  liesBuilder := by kernel_rfl
  t5 := Tryd.underlying5
  a5 := Tryd.isAgg5
  z5 := Tryd.sizeOf5
  v5 := Tryd.zeroValue5
  infoByte := by kernel_rfl
  cellsByte := by kernel_rfl
  sizeByte := by kernel_rfl
  neB5 := by decide }
open Go.RowKit in
/-- No element: the empty string; the world is as it was. (Whatever the slice's address and capacity: a nil slice too.) (LAID: no walk: one application.) -/
theorem Tryd.strings_Join_none (a : Option Addr) (c : Nat) (sep : ByteArray) (w : World) :
    Calls Tryd.prog 87 #[.slice a 0 c, .string sep] w fun e w' => e = .returned (.string ⟨#[]⟩) ∧ w' = w := Any.strings_Join_none Tryd.lays156 Tryd.Builder_Extra_156 a c sep w
open Go.RowKit in
/-- strings.Join: "Join concatenates the elements of its first argument to create a single string. The separator string sep is placed between elements in the resulting string.": HOWEVER MANY ELEMENTS. Below the heap's end the world is as it was. (LAID: no walk: one application.) -/
theorem Tryd.strings_Join (bk o c : Nat) (xs : List ByteArray) (sep : ByteArray) (w : World) (hcells : ∀ (j : Nat) x, xs[j]? = some x → w.cell? ⟨bk, o + j, none⟩ = some (.string x)) (hbk : bk < w.heap.size) (hN : xs.length ≤ 140737488355328) (hcap : xs.length ≤ c) (hlen : (Lib.join (xs.map (·.data.toList)) sep.data.toList).length ≤ 140737488355328) :
    Calls Tryd.prog 87 #[.slice (some ⟨bk, o, none⟩) xs.length c, .string sep] w fun e w' => e = .returned (.string ⟨(Lib.join (xs.map (·.data.toList)) sep.data.toList).toArray⟩) ∧ Below w.heap.size w w' := Any.strings_Join Tryd.lays156 Tryd.Builder_Extra_156 bk o c xs sep w hcells hbk hN hcap hlen
def Tryd.lays160_ren : Go.Shelf.Ren := ⟨fun | 160 => 102 | 232 => 116 | 231 => 115 | 227 => 117 | 234 => 119 | 233 => 118 | 236 => 121 | 235 => 120 | 228 => 130 | 271 => 133 | 151 => 132 | 197 => 131 | 120 => 147 | 152 => 146 | 260 => 145 | 137 => 157 | 119 => 158 | 224 => 159 | 225 => 160 | 217 => 163 | 266 => 166 | n => n, fun | 9 => 9 | 4 => 4 | 3 => 3 | 5 => 5 | 117 => 172 | 116 => 171 | 0 => 0 | 124 => 175 | 21 => 21 | 105 => 189 | 46 => 181 | 119 => 177 | 139 => 180 | 138 => 179 | n => n, fun | 3 => 0 | 4 => 1 | n => n⟩
theorem Tryd.lays160 : Go.Proofs.Lays.n160 Tryd.prog Tryd.lays160_ren := {
  mixed := by kernel_rfl
  f119 := Tryd.func158.trans (congrArg some (by kernel_rfl))
  f120 := Tryd.func147.trans (congrArg some (by kernel_rfl))
  f137 := Tryd.func157.trans (congrArg some (by kernel_rfl))
  f151 := Tryd.func132.trans (congrArg some (by kernel_rfl))
  f152 := Tryd.func146.trans (congrArg some (by kernel_rfl))
  f160 := Tryd.func102.trans (congrArg some (by kernel_rfl))
  f197 := Tryd.func131.trans (congrArg some (by kernel_rfl))
  f217 := Tryd.func163.trans (congrArg some (by kernel_rfl))
  f224 := Tryd.func159.trans (congrArg some (by kernel_rfl))
  f225 := Tryd.func160.trans (congrArg some (by kernel_rfl))
  f227 := Tryd.func117.trans (congrArg some (by kernel_rfl))
  f228 := Tryd.func130.trans (congrArg some (by kernel_rfl))
  f231 := Tryd.func115.trans (congrArg some (by kernel_rfl))
  f232 := Tryd.func116.trans (congrArg some (by kernel_rfl))
  f233 := Tryd.func118.trans (congrArg some (by kernel_rfl))
  f234 := Tryd.func119.trans (congrArg some (by kernel_rfl))
  f235 := Tryd.func120.trans (congrArg some (by kernel_rfl))
  f236 := Tryd.func121.trans (congrArg some (by kernel_rfl))
  f260 := Tryd.func145.trans (congrArg some (by kernel_rfl))
  f266 := Tryd.func166.trans (congrArg some (by kernel_rfl))
  f271 := Tryd.func133.trans (congrArg some (by kernel_rfl))
  t0 := Tryd.underlying0
  a0 := Tryd.isAgg0
  z0 := Tryd.sizeOf0
  v0 := Tryd.zeroValue0
  t3 := Tryd.underlying3
  a3 := Tryd.isAgg3
  z3 := Tryd.sizeOf3
  v3 := Tryd.zeroValue3
  t4 := Tryd.underlying4
  a4 := Tryd.isAgg4
  z4 := Tryd.sizeOf4
  v4 := Tryd.zeroValue4
  t5 := Tryd.underlying5
  a5 := Tryd.isAgg5
  z5 := Tryd.sizeOf5
  v5 := Tryd.zeroValue5
  t9 := Tryd.underlying9
  a9 := Tryd.isAgg9
  z9 := Tryd.sizeOf9
  v9 := Tryd.zeroValue9
  t21 := Tryd.underlying21
  a21 := Tryd.isAgg21
  z21 := Tryd.sizeOf21
  v21 := Tryd.zeroValue21
  t46 := Tryd.underlying181
  a46 := Tryd.isAgg181
  z46 := Tryd.sizeOf181
  v46 := Tryd.zeroValue181
  t105 := Tryd.underlying189
  a105 := Tryd.isAgg189
  z105 := Tryd.sizeOf189
  v105 := Tryd.zeroValue189
  t116 := Tryd.underlying171
  a116 := Tryd.isAgg171
  z116 := Tryd.sizeOf171
  t117 := Tryd.underlying172
  a117 := Tryd.isAgg172
  z117 := Tryd.sizeOf172
  v117 := Tryd.zeroValue172
  t119 := Tryd.underlying177
  a119 := Tryd.isAgg177
  z119 := Tryd.sizeOf177
  t124 := Tryd.underlying175
  a124 := Tryd.isAgg175
  z124 := Tryd.sizeOf175
  v124 := Tryd.zeroValue175
  t138 := Tryd.underlying179
  a138 := Tryd.isAgg179
  z138 := Tryd.sizeOf179
  v138 := Tryd.zeroValue179
  t139 := Tryd.underlying180
  a139 := Tryd.isAgg180
  z139 := Tryd.sizeOf180
  v139 := Tryd.zeroValue180
  g3 := by kernel_rfl
  g4 := by kernel_rfl }
def Tryd.laysM171_ren : Go.Shelf.Ren := ⟨fun | 171 => 85 | 243 => 107 | 246 => 124 | 283 => 134 | 284 => 135 | 285 => 136 | 286 => 137 | 129 => 149 | 317 => 148 | 318 => 150 | 319 => 151 | 320 => 152 | 337 => 161 | 338 => 162 | n => n, fun | 3 => 3 | 9 => 9 | 2 => 2 | 4 => 4 | 171 => 193 | 0 => 0 | 53 => 192 | 37 => 99 | 5 => 5 | 173 => 196 | 212 => 205 | 51 => 206 | 20 => 20 | 213 => 207 | 46 => 181 | 232 => 214 | 233 => 215 | n => n, fun | 17 => 2 | 18 => 4 | 19 => 5 | n => n⟩
theorem Tryd.laysM171 : Go.Proofs.LaysM.n171 Tryd.prog Tryd.laysM171_ren := {
  mixed := by kernel_rfl
  f129 := Tryd.func149.trans (congrArg some (by kernel_rfl))
  f171 := Tryd.func85.trans (congrArg some (by kernel_rfl))
  f243 := Tryd.func107.trans (congrArg some (by kernel_rfl))
  f246 := Tryd.func124.trans (congrArg some (by kernel_rfl))
  f283 := Tryd.func134.trans (congrArg some (by kernel_rfl))
  f284 := Tryd.func135.trans (congrArg some (by kernel_rfl))
  f285 := Tryd.func136.trans (congrArg some (by kernel_rfl))
  f286 := Tryd.func137.trans (congrArg some (by kernel_rfl))
  f317 := Tryd.func148.trans (congrArg some (by kernel_rfl))
  f318 := Tryd.func150.trans (congrArg some (by kernel_rfl))
  f319 := Tryd.func151.trans (congrArg some (by kernel_rfl))
  f320 := Tryd.func152.trans (congrArg some (by kernel_rfl))
  f337 := Tryd.func161.trans (congrArg some (by kernel_rfl))
  f338 := Tryd.func162.trans (congrArg some (by kernel_rfl))
  t0 := Tryd.underlying0
  a0 := Tryd.isAgg0
  z0 := Tryd.sizeOf0
  v0 := Tryd.zeroValue0
  t2 := Tryd.underlying2
  a2 := Tryd.isAgg2
  z2 := Tryd.sizeOf2
  v2 := Tryd.zeroValue2
  t3 := Tryd.underlying3
  a3 := Tryd.isAgg3
  z3 := Tryd.sizeOf3
  v3 := Tryd.zeroValue3
  t4 := Tryd.underlying4
  a4 := Tryd.isAgg4
  z4 := Tryd.sizeOf4
  v4 := Tryd.zeroValue4
  t5 := Tryd.underlying5
  a5 := Tryd.isAgg5
  z5 := Tryd.sizeOf5
  v5 := Tryd.zeroValue5
  t9 := Tryd.underlying9
  a9 := Tryd.isAgg9
  z9 := Tryd.sizeOf9
  v9 := Tryd.zeroValue9
  t20 := Tryd.underlying20
  a20 := Tryd.isAgg20
  z20 := Tryd.sizeOf20
  v20 := Tryd.zeroValue20
  t37 := Tryd.underlying99
  a37 := Tryd.isAgg99
  z37 := Tryd.sizeOf99
  v37 := Tryd.zeroValue99
  t46 := Tryd.underlying181
  a46 := Tryd.isAgg181
  z46 := Tryd.sizeOf181
  v46 := Tryd.zeroValue181
  t51 := Tryd.underlying206
  a51 := Tryd.isAgg206
  z51 := Tryd.sizeOf206
  v51 := Tryd.zeroValue206
  t53 := Tryd.underlying192
  a53 := Tryd.isAgg192
  z53 := Tryd.sizeOf192
  v53 := Tryd.zeroValue192
  t171 := Tryd.underlying193
  a171 := Tryd.isAgg193
  z171 := Tryd.sizeOf193
  v171 := Tryd.zeroValue193
  t173 := Tryd.underlying196
  a173 := Tryd.isAgg196
  z173 := Tryd.sizeOf196
  v173 := Tryd.zeroValue196
  t212 := Tryd.underlying205
  a212 := Tryd.isAgg205
  z212 := Tryd.sizeOf205
  v212 := Tryd.zeroValue205
  t213 := Tryd.underlying207
  a213 := Tryd.isAgg207
  z213 := Tryd.sizeOf207
  t232 := Tryd.underlying214
  a232 := Tryd.isAgg214
  z232 := Tryd.sizeOf214
  v232 := Tryd.zeroValue214
  t233 := Tryd.underlying215
  a233 := Tryd.isAgg215
  z233 := Tryd.sizeOf215
  v233 := Tryd.zeroValue215
  g17 := by kernel_rfl
  g18 := by kernel_rfl
  g19 := by kernel_rfl
  i0 := by kernel_rfl
  i2 := by kernel_rfl
  i3 := by kernel_rfl
  i4 := by kernel_rfl
  i5 := by kernel_rfl
  i9 := by kernel_rfl
  i20 := by kernel_rfl
  i37 := by kernel_rfl
  i46 := by kernel_rfl
  i51 := by kernel_rfl
  i53 := by kernel_rfl
  i171 := by kernel_rfl
  i173 := by kernel_rfl
  i212 := by kernel_rfl
  i232 := by kernel_rfl
  i233 := by kernel_rfl
  m17 := by kernel_rfl
  m18 := by kernel_rfl
  m19 := by kernel_rfl }
open Go.RowKit Go.Sort Go.Lib in
/-- strconv.Itoa: "Itoa is equivalent to FormatInt(int64(i), 10).": i's DECIMAL NUMERAL ('Lib.itoa': a '-' where i is negative, then the digits), FOR EVERY int. The world behind the call: the world before it, new blocks behind the heap (the library's 'var a [24]byte'), draws. (LAID: no walk: one application.) -/
theorem Tryd.strconv_Itoa (n : Int) (h0 : -9223372036854775808 ≤ n) (h1 : n ≤ 9223372036854775807) (w : World) (htab : Lib.TabIs Tryd.prog w "internal/strconv.uint64pow10" .u64 Lib.pow10Tab) :
    Calls Tryd.prog 85 #[.int .i64 n] w fun e w' => e = .returned (.string ⟨(Lib.itoa n).toArray⟩) ∧ ∃ k os, w' = grow (w.drewN k) os := Any.strconv_Itoa Tryd.laysM171 n h0 h1 w htab
def Tryd.lays155_ren : Go.Shelf.Ren := ⟨fun | 155 => 108 | 154 => 125 | 138 => 138 | 165 => 109 | 143 => 139 | 166 => 53 | 197 => 131 | 169 => 54 | 195 => 63 | 218 => 153 | 240 => 88 | 241 => 126 | 219 => 154 | 260 => 145 | 276 => 110 | 277 => 140 | 217 => 163 | 225 => 160 | 224 => 159 | 267 => 164 | 266 => 166 | 314 => 167 | n => n, fun | 9 => 9 | 3 => 3 | 4 => 4 | 72 => 101 | 0 => 0 | 76 => 104 | 105 => 189 | 21 => 21 | 5 => 5 | 70 => 98 | 20 => 20 | 37 => 99 | 75 => 103 | 127 => 144 | 164 => 162 | 46 => 181 | 119 => 177 | 139 => 180 | 138 => 179 | 146 => 216 | 51 => 206 | 80 => 106 | n => n, fun | 1 => 3 | 3 => 0 | 4 => 1 | n => n⟩
theorem Tryd.lays155 : Go.Proofs.Lays.n155 Tryd.prog Tryd.lays155_ren := {
  mixed := by kernel_rfl
  f138 := Tryd.func138.trans (congrArg some (by kernel_rfl))
  f143 := Tryd.func139.trans (congrArg some (by kernel_rfl))
  f154 := Tryd.func125.trans (congrArg some (by kernel_rfl))
  f155 := Tryd.func108.trans (congrArg some (by kernel_rfl))
  f165 := Tryd.func109.trans (congrArg some (by kernel_rfl))
  f166 := Tryd.func53.trans (congrArg some (by kernel_rfl))
  f169 := Tryd.func54.trans (congrArg some (by kernel_rfl))
  f195 := Tryd.func63.trans (congrArg some (by kernel_rfl))
  f197 := Tryd.func131.trans (congrArg some (by kernel_rfl))
  f217 := Tryd.func163.trans (congrArg some (by kernel_rfl))
  f218 := Tryd.func153.trans (congrArg some (by kernel_rfl))
  f219 := Tryd.func154.trans (congrArg some (by kernel_rfl))
  f224 := Tryd.func159.trans (congrArg some (by kernel_rfl))
  f225 := Tryd.func160.trans (congrArg some (by kernel_rfl))
  f240 := Tryd.func88.trans (congrArg some (by kernel_rfl))
  f241 := Tryd.func126.trans (congrArg some (by kernel_rfl))
  f260 := Tryd.func145.trans (congrArg some (by kernel_rfl))
  f266 := Tryd.func166.trans (congrArg some (by kernel_rfl))
  f267 := Tryd.func164.trans (congrArg some (by kernel_rfl))
  f276 := Tryd.func110.trans (congrArg some (by kernel_rfl))
  f277 := Tryd.func140.trans (congrArg some (by kernel_rfl))
  f314 := Tryd.func167.trans (congrArg some (by kernel_rfl))
  t0 := Tryd.underlying0
  a0 := Tryd.isAgg0
  z0 := Tryd.sizeOf0
  v0 := Tryd.zeroValue0
  t3 := Tryd.underlying3
  a3 := Tryd.isAgg3
  z3 := Tryd.sizeOf3
  v3 := Tryd.zeroValue3
  t4 := Tryd.underlying4
  a4 := Tryd.isAgg4
  z4 := Tryd.sizeOf4
  v4 := Tryd.zeroValue4
  t5 := Tryd.underlying5
  a5 := Tryd.isAgg5
  z5 := Tryd.sizeOf5
  v5 := Tryd.zeroValue5
  t9 := Tryd.underlying9
  a9 := Tryd.isAgg9
  z9 := Tryd.sizeOf9
  v9 := Tryd.zeroValue9
  t20 := Tryd.underlying20
  a20 := Tryd.isAgg20
  z20 := Tryd.sizeOf20
  v20 := Tryd.zeroValue20
  t21 := Tryd.underlying21
  a21 := Tryd.isAgg21
  z21 := Tryd.sizeOf21
  v21 := Tryd.zeroValue21
  t37 := Tryd.underlying99
  a37 := Tryd.isAgg99
  z37 := Tryd.sizeOf99
  v37 := Tryd.zeroValue99
  t46 := Tryd.underlying181
  a46 := Tryd.isAgg181
  z46 := Tryd.sizeOf181
  v46 := Tryd.zeroValue181
  t51 := Tryd.underlying206
  a51 := Tryd.isAgg206
  z51 := Tryd.sizeOf206
  v51 := Tryd.zeroValue206
  t70 := Tryd.underlying98
  a70 := Tryd.isAgg98
  z70 := Tryd.sizeOf98
  v70 := Tryd.zeroValue98
  t72 := Tryd.underlying101
  a72 := Tryd.isAgg101
  z72 := Tryd.sizeOf101
  v72 := Tryd.zeroValue101
  t75 := Tryd.underlying103
  a75 := Tryd.isAgg103
  z75 := Tryd.sizeOf103
  v75 := Tryd.zeroValue103
  t76 := Tryd.underlying104
  a76 := Tryd.isAgg104
  z76 := Tryd.sizeOf104
  v76 := Tryd.zeroValue104
  t105 := Tryd.underlying189
  a105 := Tryd.isAgg189
  z105 := Tryd.sizeOf189
  v105 := Tryd.zeroValue189
  t119 := Tryd.underlying177
  a119 := Tryd.isAgg177
  z119 := Tryd.sizeOf177
  t127 := Tryd.underlying144
  a127 := Tryd.isAgg144
  z127 := Tryd.sizeOf144
  v127 := Tryd.zeroValue144
  t138 := Tryd.underlying179
  a138 := Tryd.isAgg179
  z138 := Tryd.sizeOf179
  v138 := Tryd.zeroValue179
  t139 := Tryd.underlying180
  a139 := Tryd.isAgg180
  z139 := Tryd.sizeOf180
  v139 := Tryd.zeroValue180
  t146 := Tryd.underlying216
  a146 := Tryd.isAgg216
  z146 := Tryd.sizeOf216
  v146 := Tryd.zeroValue216
  t164 := Tryd.underlying162
  a164 := Tryd.isAgg162
  z164 := Tryd.sizeOf162
  v164 := Tryd.zeroValue162
  g1 := by kernel_rfl
  g3 := by kernel_rfl
  g4 := by kernel_rfl }
theorem Tryd.Builder_Extra_155 : Builder.Extra Tryd.prog Tryd.lays155_ren := {
  sizeBuilder := by kernel_rfl
  liesBuilder := by kernel_rfl
  t5 := Tryd.underlying5
  a5 := Tryd.isAgg5
  z5 := Tryd.sizeOf5
  v5 := Tryd.zeroValue5
  infoByte := by kernel_rfl
  cellsByte := by kernel_rfl
  sizeByte := by kernel_rfl
  neB5 := by decide }
open Go.RowKit Go.Lib in
/-- strings.ReplaceAll: "ReplaceAll returns a copy of the string s with all non-overlapping instances of old replaced by new.": AT AN old THAT IS NOT EMPTY: 'Lib.replaceAll s old new'. (LAID: no walk: one application.) -/
theorem Tryd.strings_ReplaceAll (s old new : ByteArray) (m : Int) (w : World) (hs : s.size < 4294967281) (hm : w.cell? ⟨3, 0, none⟩ = some (.int .i64 m)) (h1 : 1 ≤ old.size) (hlen : s.size + Lib.countB s old * new.size ≤ 140737488355328) :
    Calls Tryd.prog 108 #[.string s, .string old, .string new] w fun e w' =>
      e = .returned (.string ⟨(Lib.replaceAll s.data.toList old.data.toList new.data.toList).toArray⟩) ∧ Below w.heap.size w w' := Any.strings_ReplaceAll Tryd.lays155 Tryd.Builder_Extra_155 s old new m w hs hm h1 hlen
def Tryd.laysM155_ren : Go.Shelf.Ren := ⟨fun | 155 => 108 | 154 => 125 | 138 => 138 | 165 => 109 | 143 => 139 | 166 => 53 | 197 => 131 | 169 => 54 | 195 => 63 | 218 => 153 | 240 => 88 | 241 => 126 | 219 => 154 | 260 => 145 | 276 => 110 | 277 => 140 | 217 => 163 | 225 => 160 | 224 => 159 | 267 => 164 | 266 => 166 | 314 => 167 | n => n, fun | 9 => 9 | 3 => 3 | 4 => 4 | 72 => 101 | 0 => 0 | 76 => 104 | 105 => 189 | 21 => 21 | 5 => 5 | 70 => 98 | 20 => 20 | 37 => 99 | 75 => 103 | 127 => 144 | 164 => 162 | 46 => 181 | 119 => 177 | 139 => 180 | 138 => 179 | 146 => 216 | 51 => 206 | 80 => 106 | n => n, fun | 1 => 3 | 3 => 0 | 4 => 1 | n => n⟩
theorem Tryd.laysM155 : Go.Proofs.LaysM.n155 Tryd.prog Tryd.laysM155_ren := {
  mixed := by kernel_rfl
  f138 := Tryd.func138.trans (congrArg some (by kernel_rfl))
  f143 := Tryd.func139.trans (congrArg some (by kernel_rfl))
  f154 := Tryd.func125.trans (congrArg some (by kernel_rfl))
  f155 := Tryd.func108.trans (congrArg some (by kernel_rfl))
  f165 := Tryd.func109.trans (congrArg some (by kernel_rfl))
  f166 := Tryd.func53.trans (congrArg some (by kernel_rfl))
  f169 := Tryd.func54.trans (congrArg some (by kernel_rfl))
  f195 := Tryd.func63.trans (congrArg some (by kernel_rfl))
  f197 := Tryd.func131.trans (congrArg some (by kernel_rfl))
  f217 := Tryd.func163.trans (congrArg some (by kernel_rfl))
  f218 := Tryd.func153.trans (congrArg some (by kernel_rfl))
  f219 := Tryd.func154.trans (congrArg some (by kernel_rfl))
  f224 := Tryd.func159.trans (congrArg some (by kernel_rfl))
  f225 := Tryd.func160.trans (congrArg some (by kernel_rfl))
  f240 := Tryd.func88.trans (congrArg some (by kernel_rfl))
  f241 := Tryd.func126.trans (congrArg some (by kernel_rfl))
  f260 := Tryd.func145.trans (congrArg some (by kernel_rfl))
  f266 := Tryd.func166.trans (congrArg some (by kernel_rfl))
  f267 := Tryd.func164.trans (congrArg some (by kernel_rfl))
  f276 := Tryd.func110.trans (congrArg some (by kernel_rfl))
  f277 := Tryd.func140.trans (congrArg some (by kernel_rfl))
  f314 := Tryd.func167.trans (congrArg some (by kernel_rfl))
  t0 := Tryd.underlying0
  a0 := Tryd.isAgg0
  z0 := Tryd.sizeOf0
  v0 := Tryd.zeroValue0
  t3 := Tryd.underlying3
  a3 := Tryd.isAgg3
  z3 := Tryd.sizeOf3
  v3 := Tryd.zeroValue3
  t4 := Tryd.underlying4
  a4 := Tryd.isAgg4
  z4 := Tryd.sizeOf4
  v4 := Tryd.zeroValue4
  t5 := Tryd.underlying5
  a5 := Tryd.isAgg5
  z5 := Tryd.sizeOf5
  v5 := Tryd.zeroValue5
  t9 := Tryd.underlying9
  a9 := Tryd.isAgg9
  z9 := Tryd.sizeOf9
  v9 := Tryd.zeroValue9
  t20 := Tryd.underlying20
  a20 := Tryd.isAgg20
  z20 := Tryd.sizeOf20
  v20 := Tryd.zeroValue20
  t21 := Tryd.underlying21
  a21 := Tryd.isAgg21
  z21 := Tryd.sizeOf21
  v21 := Tryd.zeroValue21
  t37 := Tryd.underlying99
  a37 := Tryd.isAgg99
  z37 := Tryd.sizeOf99
  v37 := Tryd.zeroValue99
  t46 := Tryd.underlying181
  a46 := Tryd.isAgg181
  z46 := Tryd.sizeOf181
  v46 := Tryd.zeroValue181
  t51 := Tryd.underlying206
  a51 := Tryd.isAgg206
  z51 := Tryd.sizeOf206
  v51 := Tryd.zeroValue206
  t70 := Tryd.underlying98
  a70 := Tryd.isAgg98
  z70 := Tryd.sizeOf98
  v70 := Tryd.zeroValue98
  t72 := Tryd.underlying101
  a72 := Tryd.isAgg101
  z72 := Tryd.sizeOf101
  v72 := Tryd.zeroValue101
  t75 := Tryd.underlying103
  a75 := Tryd.isAgg103
  z75 := Tryd.sizeOf103
  v75 := Tryd.zeroValue103
  t76 := Tryd.underlying104
  a76 := Tryd.isAgg104
  z76 := Tryd.sizeOf104
  v76 := Tryd.zeroValue104
  t105 := Tryd.underlying189
  a105 := Tryd.isAgg189
  z105 := Tryd.sizeOf189
  v105 := Tryd.zeroValue189
  t119 := Tryd.underlying177
  a119 := Tryd.isAgg177
  z119 := Tryd.sizeOf177
  t127 := Tryd.underlying144
  a127 := Tryd.isAgg144
  z127 := Tryd.sizeOf144
  v127 := Tryd.zeroValue144
  t138 := Tryd.underlying179
  a138 := Tryd.isAgg179
  z138 := Tryd.sizeOf179
  v138 := Tryd.zeroValue179
  t139 := Tryd.underlying180
  a139 := Tryd.isAgg180
  z139 := Tryd.sizeOf180
  v139 := Tryd.zeroValue180
  t146 := Tryd.underlying216
  a146 := Tryd.isAgg216
  z146 := Tryd.sizeOf216
  v146 := Tryd.zeroValue216
  t164 := Tryd.underlying162
  a164 := Tryd.isAgg162
  z164 := Tryd.sizeOf162
  v164 := Tryd.zeroValue162
  g1 := by kernel_rfl
  g3 := by kernel_rfl
  g4 := by kernel_rfl
  t80 := Tryd.underlying106
  a80 := Tryd.isAgg106
  z80 := Tryd.sizeOf106
  v80 := Tryd.zeroValue106
  i0 := by kernel_rfl
  i3 := by kernel_rfl
  i4 := by kernel_rfl
  i5 := by kernel_rfl
  i9 := by kernel_rfl
  i20 := by kernel_rfl
  i21 := by kernel_rfl
  i37 := by kernel_rfl
  i46 := by kernel_rfl
  i51 := by kernel_rfl
  i70 := by kernel_rfl
  i72 := by kernel_rfl
  i75 := by kernel_rfl
  i76 := by kernel_rfl
  i80 := by kernel_rfl
  i105 := by kernel_rfl
  i127 := by kernel_rfl
  i138 := by kernel_rfl
  i139 := by kernel_rfl
  i146 := by kernel_rfl
  i164 := by kernel_rfl
  m1 := by kernel_rfl
  s1_3 := fun w h => Go.Proofs.cell_of_shapedOpen_int (zero := #[.int .i64 0]) (t := 3) h (of_decide_eq_true (by kernel_rfl)) (by kernel_rfl) rfl (by kernel_rfl) (by kernel_rfl) Tryd.underlying3
  m3 := by kernel_rfl
  m4 := by kernel_rfl }
def Tryd.lays196_ren : Go.Shelf.Ren := ⟨fun | 196 => 103 | 259 => 122 | n => n, fun | 9 => 9 | 4 => 4 | 3 => 3 | 5 => 5 | 12 => 12 | 119 => 177 | 0 => 0 | 46 => 181 | 139 => 180 | 138 => 179 | 53 => 192 | n => n, fun | 3 => 0 | 4 => 1 | n => n⟩
theorem Tryd.lays196 : Go.Proofs.Lays.n196 Tryd.prog Tryd.lays196_ren := {
  mixed := by kernel_rfl
  f196 := Tryd.func103.trans (congrArg some (by kernel_rfl))
  f259 := Tryd.func122.trans (congrArg some (by kernel_rfl))
  t0 := Tryd.underlying0
  a0 := Tryd.isAgg0
  z0 := Tryd.sizeOf0
  v0 := Tryd.zeroValue0
  t3 := Tryd.underlying3
  a3 := Tryd.isAgg3
  z3 := Tryd.sizeOf3
  v3 := Tryd.zeroValue3
  t4 := Tryd.underlying4
  a4 := Tryd.isAgg4
  z4 := Tryd.sizeOf4
  v4 := Tryd.zeroValue4
  t5 := Tryd.underlying5
  a5 := Tryd.isAgg5
  z5 := Tryd.sizeOf5
  v5 := Tryd.zeroValue5
  t9 := Tryd.underlying9
  a9 := Tryd.isAgg9
  z9 := Tryd.sizeOf9
  v9 := Tryd.zeroValue9
  t12 := Tryd.underlying12
  a12 := Tryd.isAgg12
  z12 := Tryd.sizeOf12
  v12 := Tryd.zeroValue12
  t46 := Tryd.underlying181
  a46 := Tryd.isAgg181
  z46 := Tryd.sizeOf181
  v46 := Tryd.zeroValue181
  t53 := Tryd.underlying192
  a53 := Tryd.isAgg192
  z53 := Tryd.sizeOf192
  v53 := Tryd.zeroValue192
  t119 := Tryd.underlying177
  a119 := Tryd.isAgg177
  z119 := Tryd.sizeOf177
  t138 := Tryd.underlying179
  a138 := Tryd.isAgg179
  z138 := Tryd.sizeOf179
  v138 := Tryd.zeroValue179
  t139 := Tryd.underlying180
  a139 := Tryd.isAgg180
  z139 := Tryd.sizeOf180
  v139 := Tryd.zeroValue180
  g3 := by kernel_rfl
  g4 := by kernel_rfl }
def Tryd.lays8_4_ren : Go.Shelf.Ren := ⟨fun | 4 => 105 | n => n, fun | 22 => 26 | 25 => 28 | 3 => 3 | 4 => 4 | 9 => 9 | 20 => 20 | 0 => 0 | n => n, fun | n => n⟩
theorem Tryd.lays8_4 : Go.Proofs.Lays8.n4 Tryd.prog Tryd.lays8_4_ren := {
  mixed := by kernel_rfl
  f4 := ⟨Tryd.f105.name, by decide, Tryd.func105.trans (congrArg some (by kernel_rfl))⟩
  t0 := Tryd.underlying0
  a0 := Tryd.isAgg0
  z0 := Tryd.sizeOf0
  v0 := Tryd.zeroValue0
  t3 := Tryd.underlying3
  a3 := Tryd.isAgg3
  z3 := Tryd.sizeOf3
  v3 := Tryd.zeroValue3
  t4 := Tryd.underlying4
  a4 := Tryd.isAgg4
  z4 := Tryd.sizeOf4
  v4 := Tryd.zeroValue4
  t9 := Tryd.underlying9
  a9 := Tryd.isAgg9
  z9 := Tryd.sizeOf9
  v9 := Tryd.zeroValue9
  t20 := Tryd.underlying20
  a20 := Tryd.isAgg20
  z20 := Tryd.sizeOf20
  v20 := Tryd.zeroValue20
  t22 := Tryd.underlying26
  a22 := Tryd.isAgg26
  z22 := Tryd.sizeOf26
  v22 := Tryd.zeroValue26 }

end Go.Proofs
