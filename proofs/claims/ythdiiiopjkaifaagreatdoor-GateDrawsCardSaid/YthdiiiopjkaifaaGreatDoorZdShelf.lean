/-
 DERIVED: THE SHELF's CONTRACTS AT THIS DUMP, IN PLAIN WORDS (tools/lay-plain.mjs out of 'TryzShelf.lean', which tools/lay-shelf.mjs wrote): THE SAME DECLARATIONS UNDER THE SAME NAMES: 'import', 'namespace', 'open', 'def', 'theorem' AND NOTHING ELSE: no command of the shelf's: FOR A HAND-IN. Each laying: the table of numbers ('.._ren') and one theorem, a field a fact of the dump's own or the kernel's comparison; each contract: ONE APPLICATION.
-/
import Derived.Shelf.Strings.Builder1
import Derived.Shelf.Strings.Builder2
import Derived.Shelf.Strings.OnBuilder
import Derived.Shelf.Strings.Trim
import Derived.Shelf.Small.Utf8
import Derived.Shelf.Small.Strs
import Derived.Shelf.Strings.BuilderF
import Derived.Shelf.Strings.BuilderK
import Derived.Shelf.Strings.BuilderRune
import Derived.Shelf.Utf8.AppendRune
import Derived.Shelf.Utf8.AppendRunePlain
import Derived.Shelf.Utf8.RuneCount
import Derived.Shelf.Strings.Builder2Cap
import Derived.Shelf.Strconv.Itoa0
import Derived.Shelf.Strconv.Itoa1
import Derived.Shelf.LaysM
import Derived.Shelf.Strconv.Itoa2
import Derived.Shelf.Strconv.Itoa3
import Derived.Shelf.Bytes.Len
import Derived.Shelf.Bytes.TryGrow
import Derived.Shelf.Bytes.GrowSliceCatch
import Derived.Shelf.Bytes.GrowSlice
import Derived.Shelf.Bytes.GrowRow0
import Derived.Shelf.Bytes.GrowRow
import Derived.Shelf.Bytes.GrowNil
import Derived.Shelf.Bytes.Grow
import Derived.Shelf.Bytes.WriteString
import Derived.Shelf.Bytes.Reset
import Derived.Shelf.Bytes.Write
import Derived.Shelf.Bytes.Bytes
import Derived.Shelf.Strings.Search1
import Derived.Shelf.Bytes.GrowRow0Kept
import Derived.Shelf.Strings.Search2
import Derived.Shelf.Bytes.GrowRowKept
import Derived.Shelf.Strings.Search3
import Derived.Shelf.Bytes.GrowNilKept
import Derived.Shelf.Strings.Cut
import Derived.Shelf.Bytes.GrowKept
import Derived.Shelf.Strings.Count
import Derived.Shelf.Strings.Shaped
import Derived.Shelf.Bytes.WriteStringKept
import Derived.Shelf.Bytes.ResetKept
import Derived.Shelf.Bytes.WriteKept
import Derived.Shelf.Bytes.BufferK
import Derived.Shelf.Bytes.GrowRow0Own
import Derived.Shelf.Bytes.GrowRowOwn
import Derived.Shelf.Bytes.GrowNilOwn
import Derived.Shelf.Bytes.GrowOwn
import Derived.Shelf.Bytes.WriteAny
import Derived.Shelf.Bytes.LenAt
import Derived.Shelf.Bytes.TryGrowAt
import Derived.Shelf.Bytes.GrowRow0At
import Derived.Shelf.Bytes.GrowRowAt
import Derived.Shelf.GgClosure.StringsIndexFunc
import Derived.Shelf.Bytes.GrowNilAt
import Derived.Shelf.Bytes.GrowAt
import Derived.Ground.GgwProg
import Derived.Shelf.GgClosure.StringsIndexFuncTop
import Derived.Shelf.GgClosure.StringsRunes
import Derived.Shelf.Bytes.WriteStringAt
import Derived.Shelf.Bytes.WriteAt
import Derived.Shelf.Strings.Prefix
import Derived.Shelf.Strings.Split
import Derived.Shelf.Strings.SplitShaped
import Derived.Shelf.Unicode.Decode
import Derived.Shelf.Strings.Runes
import Derived.Shelf.Strings.RuneCount
import Derived.Shelf.Strings.AsciiSet
import Derived.Shelf.Strings.Explode
import Derived.Shelf.Bits.Mul64
import Derived.Shelf.Unicode.DecodeSlow
import Derived.Shelf.Unicode.DecodeAny
import Derived.Shelf.Unicode.DecodeLast
import Derived.Shelf.Strings.FuncGrows
import Derived.Shelf.Strings.BuilderCap
import Derived.Ground.SlbCloneProg
import Derived.Shelf.Bytes.SlClone
import Derived.Test.YthdiiiopjkaifaaGreatDoorProg
namespace Go.Proofs
open Go.Shelf
def Tryz.lays170_ren : Go.Shelf.Ren := ⟨fun | 170 => 71 | n => n, fun | 70 => 129 | 3 => 3 | 0 => 0 | 72 => 131 | 37 => 23 | 5 => 5 | n => n, fun | n => n⟩
theorem Tryz.lays170 : Go.Proofs.Lays.n170 Tryz.prog Tryz.lays170_ren := {
 mixed := by kernel_rfl
 f170 := Tryz.func71.trans (congrArg some (by kernel_rfl))
 t0 := Tryz.underlying0
 a0 := Tryz.isAgg0
 z0 := Tryz.sizeOf0
 v0 := Tryz.zeroValue0
 t3 := Tryz.underlying3
 a3 := Tryz.isAgg3
 z3 := Tryz.sizeOf3
 v3 := Tryz.zeroValue3
 t37 := Tryz.underlying23
 a37 := Tryz.isAgg23
 z37 := Tryz.sizeOf23
 v37 := Tryz.zeroValue23
 t70 := Tryz.underlying129
 a70 := Tryz.isAgg129
 z70 := Tryz.sizeOf129
 v70 := Tryz.zeroValue129
 t72 := Tryz.underlying131
 a72 := Tryz.isAgg131
 z72 := Tryz.sizeOf131
 v72 := Tryz.zeroValue131 }
open Go.RowKit in
/-- (*strings.Builder).Len: "Len returns the number of accumulated bytes; b.Len() == len(b.String()).": the world is as it was. (LAID: no walk: one application.) -/
theorem Tryz.Builder_Len (B b : Nat) (bs : List Value) (w : World) (h : Lib.IsBuilder 131 5 B b bs w) :
  Calls Tryz.prog 71 #[.pointer (some ⟨b, 0, none⟩)] w fun e w' => e = .returned (.int .i64 bs.length) ∧ w' = w := Any.Builder_Len Tryz.lays170 B b bs w h
def Tryz.lays169_ren : Go.Shelf.Ren := ⟨fun | 169 => 76 | n => n, fun | 70 => 129 | 9 => 9 | 0 => 0 | 72 => 131 | 37 => 23 | 127 => 206 | 3 => 3 | 5 => 5 | n => n, fun | n => n⟩
theorem Tryz.lays169 : Go.Proofs.Lays.n169 Tryz.prog Tryz.lays169_ren := {
 mixed := by kernel_rfl
 f169 := Tryz.func76.trans (congrArg some (by kernel_rfl))
 t0 := Tryz.underlying0
 a0 := Tryz.isAgg0
 z0 := Tryz.sizeOf0
 v0 := Tryz.zeroValue0
 t3 := Tryz.underlying3
 a3 := Tryz.isAgg3
 z3 := Tryz.sizeOf3
 v3 := Tryz.zeroValue3
 t9 := Tryz.underlying9
 a9 := Tryz.isAgg9
 z9 := Tryz.sizeOf9
 v9 := Tryz.zeroValue9
 t37 := Tryz.underlying23
 a37 := Tryz.isAgg23
 z37 := Tryz.sizeOf23
 v37 := Tryz.zeroValue23
 t70 := Tryz.underlying129
 a70 := Tryz.isAgg129
 z70 := Tryz.sizeOf129
 v70 := Tryz.zeroValue129
 t72 := Tryz.underlying131
 a72 := Tryz.isAgg131
 z72 := Tryz.sizeOf131
 v72 := Tryz.zeroValue131
 t127 := Tryz.underlying206
 a127 := Tryz.isAgg206
 z127 := Tryz.sizeOf206
 v127 := Tryz.zeroValue206 }
theorem Tryz.Builder_Extra_169 : Builder.Extra Tryz.prog Tryz.lays169_ren := {
 sizeBuilder := by kernel_rfl
 liesBuilder := by kernel_rfl
 t5 := Tryz.underlying5
 a5 := Tryz.isAgg5
 z5 := Tryz.sizeOf5
 v5 := Tryz.zeroValue5
 infoByte := by kernel_rfl
 cellsByte := by kernel_rfl
 sizeByte := by kernel_rfl
 neB5 := by decide }
open Go.RowKit in
/-- (*strings.Builder).String: "String returns the accumulated string.": WHATEVER THE BUILDER HOLDS. (LAID: no walk: one application.) -/
theorem Tryz.Builder_String_any (B b : Nat) (l : List UInt8) (w : World) (h : Lib.IsBuilder 131 5 B b (Lib.byteCells l) w) (hBw : B ≤ w.heap.size) :
  Calls Tryz.prog 76 #[.pointer (some ⟨b, 0, none⟩)] w fun e w' => e = .returned (.string ⟨l.toArray⟩) ∧ Below B w w' := Any.Builder_String_any Tryz.lays169 Tryz.Builder_Extra_169 B b l w h hBw
def Tryz.lays156_ren : Go.Shelf.Ren := ⟨fun | 156 => 69 | 165 => 116 | 166 => 68 | 169 => 76 | 240 => 115 | 241 => 168 | 276 => 167 | 277 => 217 | n => n, fun | 31 => 33 | 9 => 9 | 3 => 3 | 4 => 4 | 0 => 0 | 20 => 20 | 72 => 131 | 76 => 134 | 70 => 129 | 37 => 23 | 75 => 133 | 127 => 206 | 164 => 241 | 5 => 5 | 80 => 144 | n => n, fun | n => n⟩
theorem Tryz.lays156 : Go.Proofs.Lays.n156 Tryz.prog Tryz.lays156_ren := {
 mixed := by kernel_rfl
 f156 := Tryz.func69.trans (congrArg some (by kernel_rfl))
 f165 := Tryz.func116.trans (congrArg some (by kernel_rfl))
 f166 := Tryz.func68.trans (congrArg some (by kernel_rfl))
 f169 := Tryz.func76.trans (congrArg some (by kernel_rfl))
 f240 := Tryz.func115.trans (congrArg some (by kernel_rfl))
 f241 := Tryz.func168.trans (congrArg some (by kernel_rfl))
 f276 := Tryz.func167.trans (congrArg some (by kernel_rfl))
 f277 := Tryz.func217.trans (congrArg some (by kernel_rfl))
 t0 := Tryz.underlying0
 a0 := Tryz.isAgg0
 z0 := Tryz.sizeOf0
 v0 := Tryz.zeroValue0
 t3 := Tryz.underlying3
 a3 := Tryz.isAgg3
 z3 := Tryz.sizeOf3
 v3 := Tryz.zeroValue3
 t4 := Tryz.underlying4
 a4 := Tryz.isAgg4
 z4 := Tryz.sizeOf4
 v4 := Tryz.zeroValue4
 t9 := Tryz.underlying9
 a9 := Tryz.isAgg9
 z9 := Tryz.sizeOf9
 v9 := Tryz.zeroValue9
 t20 := Tryz.underlying20
 a20 := Tryz.isAgg20
 z20 := Tryz.sizeOf20
 v20 := Tryz.zeroValue20
 t31 := Tryz.underlying33
 a31 := Tryz.isAgg33
 z31 := Tryz.sizeOf33
 v31 := Tryz.zeroValue33
 t37 := Tryz.underlying23
 a37 := Tryz.isAgg23
 z37 := Tryz.sizeOf23
 v37 := Tryz.zeroValue23
 t70 := Tryz.underlying129
 a70 := Tryz.isAgg129
 z70 := Tryz.sizeOf129
 v70 := Tryz.zeroValue129
 t72 := Tryz.underlying131
 a72 := Tryz.isAgg131
 z72 := Tryz.sizeOf131
 v72 := Tryz.zeroValue131
 t75 := Tryz.underlying133
 a75 := Tryz.isAgg133
 z75 := Tryz.sizeOf133
 v75 := Tryz.zeroValue133
 t76 := Tryz.underlying134
 a76 := Tryz.isAgg134
 z76 := Tryz.sizeOf134
 v76 := Tryz.zeroValue134
 t127 := Tryz.underlying206
 a127 := Tryz.isAgg206
 z127 := Tryz.sizeOf206
 v127 := Tryz.zeroValue206
 t164 := Tryz.underlying241
 a164 := Tryz.isAgg241
 z164 := Tryz.sizeOf241
 v164 := Tryz.zeroValue241 }
theorem Tryz.Builder_Extra_156 : Builder.Extra Tryz.prog Tryz.lays156_ren := {
 sizeBuilder := by kernel_rfl
 liesBuilder := by kernel_rfl
 t5 := Tryz.underlying5
 a5 := Tryz.isAgg5
 z5 := Tryz.sizeOf5
 v5 := Tryz.zeroValue5
 infoByte := by kernel_rfl
 cellsByte := by kernel_rfl
 sizeByte := by kernel_rfl
 neB5 := by decide }
open Go.RowKit in
/-- strings.Join: "Join concatenates the elements of its first argument to create a single string. The separator string sep is placed between elements in the resulting string.": HOWEVER MANY ELEMENTS. Below the heap's end the world is as it was. (LAID: no walk: one application.) -/
theorem Tryz.strings_Join (bk o c : Nat) (xs : List ByteArray) (sep : ByteArray) (w : World) (hcells : ∀ (j : Nat) x, xs[j]? = some x → w.cell? ⟨bk, o + j, none⟩ = some (.string x)) (hbk : bk < w.heap.size) (hN : xs.length ≤ 140737488355328) (hcap : xs.length ≤ c) (hlen : (Lib.join (xs.map (·.data.toList)) sep.data.toList).length ≤ 140737488355328) :
  Calls Tryz.prog 69 #[.slice (some ⟨bk, o, none⟩) xs.length c, .string sep] w fun e w' => e = .returned (.string ⟨(Lib.join (xs.map (·.data.toList)) sep.data.toList).toArray⟩) ∧ Below w.heap.size w w' := Any.strings_Join Tryz.lays156 Tryz.Builder_Extra_156 bk o c xs sep w hcells hbk hN hcap hlen
def Tryz.lays160_ren : Go.Shelf.Ren := ⟨fun | 160 => 199 | 232 => 242 | 231 => 241 | 227 => 243 | 234 => 245 | 233 => 244 | 236 => 247 | 235 => 246 | 228 => 282 | 271 => 284 | 151 => 283 | 197 => 273 | 120 => 304 | 152 => 303 | 260 => 301 | 137 => 172 | 119 => 311 | 224 => 279 | 225 => 278 | 217 => 219 | 266 => 271 | n => n, fun | 9 => 9 | 4 => 4 | 3 => 3 | 5 => 5 | 117 => 298 | 116 => 297 | 0 => 0 | 124 => 301 | 21 => 21 | 105 => 320 | 46 => 163 | 119 => 338 | 139 => 341 | 138 => 340 | n => n, fun | 3 => 3 | 4 => 4 | n => n⟩
theorem Tryz.lays160 : Go.Proofs.Lays.n160 Tryz.prog Tryz.lays160_ren := {
 mixed := by kernel_rfl
 f119 := Tryz.func311.trans (congrArg some (by kernel_rfl))
 f120 := Tryz.func304.trans (congrArg some (by kernel_rfl))
 f137 := Tryz.func172.trans (congrArg some (by kernel_rfl))
 f151 := Tryz.func283.trans (congrArg some (by kernel_rfl))
 f152 := Tryz.func303.trans (congrArg some (by kernel_rfl))
 f160 := Tryz.func199.trans (congrArg some (by kernel_rfl))
 f197 := Tryz.func273.trans (congrArg some (by kernel_rfl))
 f217 := Tryz.func219.trans (congrArg some (by kernel_rfl))
 f224 := Tryz.func279.trans (congrArg some (by kernel_rfl))
 f225 := Tryz.func278.trans (congrArg some (by kernel_rfl))
 f227 := Tryz.func243.trans (congrArg some (by kernel_rfl))
 f228 := Tryz.func282.trans (congrArg some (by kernel_rfl))
 f231 := Tryz.func241.trans (congrArg some (by kernel_rfl))
 f232 := Tryz.func242.trans (congrArg some (by kernel_rfl))
 f233 := Tryz.func244.trans (congrArg some (by kernel_rfl))
 f234 := Tryz.func245.trans (congrArg some (by kernel_rfl))
 f235 := Tryz.func246.trans (congrArg some (by kernel_rfl))
 f236 := Tryz.func247.trans (congrArg some (by kernel_rfl))
 f260 := Tryz.func301.trans (congrArg some (by kernel_rfl))
 f266 := Tryz.func271.trans (congrArg some (by kernel_rfl))
 f271 := Tryz.func284.trans (congrArg some (by kernel_rfl))
 t0 := Tryz.underlying0
 a0 := Tryz.isAgg0
 z0 := Tryz.sizeOf0
 v0 := Tryz.zeroValue0
 t3 := Tryz.underlying3
 a3 := Tryz.isAgg3
 z3 := Tryz.sizeOf3
 v3 := Tryz.zeroValue3
 t4 := Tryz.underlying4
 a4 := Tryz.isAgg4
 z4 := Tryz.sizeOf4
 v4 := Tryz.zeroValue4
 t5 := Tryz.underlying5
 a5 := Tryz.isAgg5
 z5 := Tryz.sizeOf5
 v5 := Tryz.zeroValue5
 t9 := Tryz.underlying9
 a9 := Tryz.isAgg9
 z9 := Tryz.sizeOf9
 v9 := Tryz.zeroValue9
 t21 := Tryz.underlying21
 a21 := Tryz.isAgg21
 z21 := Tryz.sizeOf21
 v21 := Tryz.zeroValue21
 t46 := Tryz.underlying163
 a46 := Tryz.isAgg163
 z46 := Tryz.sizeOf163
 v46 := Tryz.zeroValue163
 t105 := Tryz.underlying320
 a105 := Tryz.isAgg320
 z105 := Tryz.sizeOf320
 v105 := Tryz.zeroValue320
 t116 := Tryz.underlying297
 a116 := Tryz.isAgg297
 z116 := Tryz.sizeOf297
 t117 := Tryz.underlying298
 a117 := Tryz.isAgg298
 z117 := Tryz.sizeOf298
 v117 := Tryz.zeroValue298
 t119 := Tryz.underlying338
 a119 := Tryz.isAgg338
 z119 := Tryz.sizeOf338
 t124 := Tryz.underlying301
 a124 := Tryz.isAgg301
 z124 := Tryz.sizeOf301
 v124 := Tryz.zeroValue301
 t138 := Tryz.underlying340
 a138 := Tryz.isAgg340
 z138 := Tryz.sizeOf340
 v138 := Tryz.zeroValue340
 t139 := Tryz.underlying341
 a139 := Tryz.isAgg341
 z139 := Tryz.sizeOf341
 v139 := Tryz.zeroValue341
 g3 := by kernel_rfl
 g4 := by kernel_rfl }
def Tryz.lays137_ren : Go.Shelf.Ren := ⟨fun | 137 => 172 | 217 => 219 | 266 => 271 | n => n, fun | 9 => 9 | 5 => 5 | 3 => 3 | n => n, fun | n => n⟩
theorem Tryz.lays137 : Go.Proofs.Lays.n137 Tryz.prog Tryz.lays137_ren := {
 mixed := by kernel_rfl
 f137 := Tryz.func172.trans (congrArg some (by kernel_rfl))
 f217 := Tryz.func219.trans (congrArg some (by kernel_rfl))
 f266 := Tryz.func271.trans (congrArg some (by kernel_rfl))
 t3 := Tryz.underlying3
 a3 := Tryz.isAgg3
 z3 := Tryz.sizeOf3
 v3 := Tryz.zeroValue3
 t5 := Tryz.underlying5
 a5 := Tryz.isAgg5
 z5 := Tryz.sizeOf5
 v5 := Tryz.zeroValue5
 t9 := Tryz.underlying9
 a9 := Tryz.isAgg9
 z9 := Tryz.sizeOf9
 v9 := Tryz.zeroValue9 }
open Go.RowKit in
/-- strings.IndexByte: "IndexByte returns the index of the first instance of c in s, or -1 if c is not present in s.": IT RETURNS 'Lib.indexByte s c'; the world is as it was. (LAID: no walk: one application.) -/
theorem Tryz.strings_IndexByte (s : ByteArray) (c : Int) (w : World) :
  Calls Tryz.prog 172 #[.string s, .int .u8 c] w fun e w' => e = .returned (.int .i64 (Lib.indexByte s.data.toList c.toNat.toUInt8)) ∧ w' = w := Any.strings_IndexByte Tryz.lays137 s c w
def Tryz.lays242_ren : Go.Shelf.Ren := ⟨fun | 242 => 170 | 278 => 218 | n => n, fun | 37 => 23 | 21 => 21 | 51 => 253 | 4 => 4 | 5 => 5 | 46 => 163 | n => n, fun | n => n⟩
theorem Tryz.lays242 : Go.Proofs.Lays.n242 Tryz.prog Tryz.lays242_ren := {
 mixed := by kernel_rfl
 f242 := Tryz.func170.trans (congrArg some (by kernel_rfl))
 f278 := Tryz.func218.trans (congrArg some (by kernel_rfl))
 t4 := Tryz.underlying4
 a4 := Tryz.isAgg4
 z4 := Tryz.sizeOf4
 v4 := Tryz.zeroValue4
 t5 := Tryz.underlying5
 a5 := Tryz.isAgg5
 z5 := Tryz.sizeOf5
 v5 := Tryz.zeroValue5
 t21 := Tryz.underlying21
 a21 := Tryz.isAgg21
 z21 := Tryz.sizeOf21
 v21 := Tryz.zeroValue21
 t37 := Tryz.underlying23
 a37 := Tryz.isAgg23
 z37 := Tryz.sizeOf23
 v37 := Tryz.zeroValue23
 t46 := Tryz.underlying163
 a46 := Tryz.isAgg163
 z46 := Tryz.sizeOf163
 v46 := Tryz.zeroValue163
 t51 := Tryz.underlying253
 a51 := Tryz.isAgg253
 z51 := Tryz.sizeOf253
 v51 := Tryz.zeroValue253 }
open Go.RowKit in
/-- unicode/utf8.AppendRune: "AppendRune appends the UTF-8 encoding of r to the end of p and returns the extended buffer. If the rune is out of range, it appends the encoding of RuneError.": ONTO A ROW OF BYTES THAT THE CALL OWNS (its head frozen or not): EVERY int32: 'Lib.runeCells r' goes in behind what the row holds; the world: one new block (the bytes as the call's variadic argument), then what 'append' does to the row. (LAID: no walk: one application.) -/
theorem Tryz.utf8_AppendRune_plain (B : Nat) (v : Value) (n : Nat) (xs : List Value) (r : Int) (hr0 : -2147483648 ≤ r) (hr1 : r ≤ 2147483647) (w : World) (hown : w.ownsRow B 5 1 v n xs) (hlen : n + 4 ≤ 140737488355328) (hBw : B ≤ w.heap.size) :
  Calls Tryz.prog 170 #[v, .int .i32 r] w fun e w' => ∃ v', e = .returned v' ∧ w'.ownsRow B 5 1 v' (n + (Lib.runeCells r).length) (xs ++ Lib.runeCells r) ∧ ∃ o, (w.alloc o).grownBy w' v.ownBlock := Any.utf8_AppendRune_plain Tryz.lays242 (by kernel_rfl) B v n xs r hr0 hr1 w hown hlen hBw
def Tryz.laysM246_ren : Go.Shelf.Ren := ⟨fun | 246 => 216 | 283 => 267 | 284 => 268 | 285 => 269 | 286 => 270 | 129 => 297 | 317 => 296 | 318 => 298 | 319 => 299 | 320 => 300 | 337 => 309 | 338 => 310 | n => n, fun | 2 => 2 | 3 => 3 | 9 => 9 | 4 => 4 | 171 => 315 | 0 => 0 | 53 => 38 | 37 => 23 | 5 => 5 | 173 => 318 | 212 => 330 | 51 => 253 | 20 => 20 | 213 => 331 | 46 => 163 | 232 => 343 | 233 => 344 | n => n, fun | 17 => 2 | 18 => 5 | 19 => 6 | n => n⟩
def Tryz.laysM243_ren : Go.Shelf.Ren := ⟨fun | 243 => 166 | 246 => 216 | 283 => 267 | 284 => 268 | 285 => 269 | 286 => 270 | 129 => 297 | 317 => 296 | 318 => 298 | 319 => 299 | 320 => 300 | 337 => 309 | 338 => 310 | n => n, fun | 3 => 3 | 9 => 9 | 2 => 2 | 4 => 4 | 171 => 315 | 0 => 0 | 53 => 38 | 37 => 23 | 5 => 5 | 173 => 318 | 212 => 330 | 51 => 253 | 20 => 20 | 213 => 331 | 46 => 163 | 232 => 343 | 233 => 344 | n => n, fun | 17 => 2 | 18 => 5 | 19 => 6 | n => n⟩
def Tryz.laysM171_ren : Go.Shelf.Ren := ⟨fun | 171 => 112 | 243 => 166 | 246 => 216 | 283 => 267 | 284 => 268 | 285 => 269 | 286 => 270 | 129 => 297 | 317 => 296 | 318 => 298 | 319 => 299 | 320 => 300 | 337 => 309 | 338 => 310 | n => n, fun | 3 => 3 | 9 => 9 | 2 => 2 | 4 => 4 | 171 => 315 | 0 => 0 | 53 => 38 | 37 => 23 | 5 => 5 | 173 => 318 | 212 => 330 | 51 => 253 | 20 => 20 | 213 => 331 | 46 => 163 | 232 => 343 | 233 => 344 | n => n, fun | 17 => 2 | 18 => 5 | 19 => 6 | n => n⟩
theorem Tryz.laysM171 : Go.Proofs.LaysM.n171 Tryz.prog Tryz.laysM171_ren := {
 mixed := by kernel_rfl
 f129 := Tryz.func297.trans (congrArg some (by kernel_rfl))
 f171 := Tryz.func112.trans (congrArg some (by kernel_rfl))
 f243 := Tryz.func166.trans (congrArg some (by kernel_rfl))
 f246 := Tryz.func216.trans (congrArg some (by kernel_rfl))
 f283 := Tryz.func267.trans (congrArg some (by kernel_rfl))
 f284 := Tryz.func268.trans (congrArg some (by kernel_rfl))
 f285 := Tryz.func269.trans (congrArg some (by kernel_rfl))
 f286 := Tryz.func270.trans (congrArg some (by kernel_rfl))
 f317 := Tryz.func296.trans (congrArg some (by kernel_rfl))
 f318 := Tryz.func298.trans (congrArg some (by kernel_rfl))
 f319 := Tryz.func299.trans (congrArg some (by kernel_rfl))
 f320 := Tryz.func300.trans (congrArg some (by kernel_rfl))
 f337 := Tryz.func309.trans (congrArg some (by kernel_rfl))
 f338 := Tryz.func310.trans (congrArg some (by kernel_rfl))
 t0 := Tryz.underlying0
 a0 := Tryz.isAgg0
 z0 := Tryz.sizeOf0
 v0 := Tryz.zeroValue0
 t2 := Tryz.underlying2
 a2 := Tryz.isAgg2
 z2 := Tryz.sizeOf2
 v2 := Tryz.zeroValue2
 t3 := Tryz.underlying3
 a3 := Tryz.isAgg3
 z3 := Tryz.sizeOf3
 v3 := Tryz.zeroValue3
 t4 := Tryz.underlying4
 a4 := Tryz.isAgg4
 z4 := Tryz.sizeOf4
 v4 := Tryz.zeroValue4
 t5 := Tryz.underlying5
 a5 := Tryz.isAgg5
 z5 := Tryz.sizeOf5
 v5 := Tryz.zeroValue5
 t9 := Tryz.underlying9
 a9 := Tryz.isAgg9
 z9 := Tryz.sizeOf9
 v9 := Tryz.zeroValue9
 t20 := Tryz.underlying20
 a20 := Tryz.isAgg20
 z20 := Tryz.sizeOf20
 v20 := Tryz.zeroValue20
 t37 := Tryz.underlying23
 a37 := Tryz.isAgg23
 z37 := Tryz.sizeOf23
 v37 := Tryz.zeroValue23
 t46 := Tryz.underlying163
 a46 := Tryz.isAgg163
 z46 := Tryz.sizeOf163
 v46 := Tryz.zeroValue163
 t51 := Tryz.underlying253
 a51 := Tryz.isAgg253
 z51 := Tryz.sizeOf253
 v51 := Tryz.zeroValue253
 t53 := Tryz.underlying38
 a53 := Tryz.isAgg38
 z53 := Tryz.sizeOf38
 v53 := Tryz.zeroValue38
 t171 := Tryz.underlying315
 a171 := Tryz.isAgg315
 z171 := Tryz.sizeOf315
 v171 := Tryz.zeroValue315
 t173 := Tryz.underlying318
 a173 := Tryz.isAgg318
 z173 := Tryz.sizeOf318
 v173 := Tryz.zeroValue318
 t212 := Tryz.underlying330
 a212 := Tryz.isAgg330
 z212 := Tryz.sizeOf330
 v212 := Tryz.zeroValue330
 t213 := Tryz.underlying331
 a213 := Tryz.isAgg331
 z213 := Tryz.sizeOf331
 t232 := Tryz.underlying343
 a232 := Tryz.isAgg343
 z232 := Tryz.sizeOf343
 v232 := Tryz.zeroValue343
 t233 := Tryz.underlying344
 a233 := Tryz.isAgg344
 z233 := Tryz.sizeOf344
 v233 := Tryz.zeroValue344
 g17 := by kernel_rfl
 g18 := by kernel_rfl
 g19 := by kernel_rfl
 i0 := by kernel_rfl
 i2 := by kernel_rfl
 i3 := by kernel_rfl
 i4 := by kernel_rfl
 i5 := by kernel_rfl
 i9 := by kernel_rfl
 i20 := by kernel_rfl
 i37 := by kernel_rfl
 i46 := by kernel_rfl
 i51 := by kernel_rfl
 i53 := by kernel_rfl
 i171 := by kernel_rfl
 i173 := by kernel_rfl
 i212 := by kernel_rfl
 i232 := by kernel_rfl
 i233 := by kernel_rfl
 m17 := by kernel_rfl
 m18 := by kernel_rfl
 m19 := by kernel_rfl }
open Go.RowKit Go.Sort Go.Lib in
/-- strconv.Itoa: "Itoa is equivalent to FormatInt(int64(i), 10).": i's DECIMAL NUMERAL ('Lib.itoa': a '-' where i is negative, then the digits), FOR EVERY int. The world behind the call: the world before it, new blocks behind the heap (the library's 'var a [24]byte'), draws. (LAID: no walk: one application.) -/
theorem Tryz.strconv_Itoa (n : Int) (h0 : -9223372036854775808 ≤ n) (h1 : n ≤ 9223372036854775807) (w : World) (htab : Lib.TabIs Tryz.prog w "internal/strconv.uint64pow10" .u64 Lib.pow10Tab) :
  Calls Tryz.prog 112 #[.int .i64 n] w fun e w' => e = .returned (.string ⟨(Lib.itoa n).toArray⟩) ∧ ∃ k os, w' = grow (w.drewN k) os := Any.strconv_Itoa Tryz.laysM171 n h0 h1 w htab
def Tryz.laysM251_ren : Go.Shelf.Ren := ⟨fun | 251 => 201 | n => n, fun | 130 => 265 | 3 => 3 | 4 => 4 | 0 => 0 | 93 => 231 | 37 => 23 | 91 => 229 | 5 => 5 | n => n, fun | n => n⟩
theorem Tryz.laysM251 : Go.Proofs.LaysM.n251 Tryz.prog Tryz.laysM251_ren := {
 mixed := by kernel_rfl
 f251 := Tryz.func201.trans (congrArg some (by kernel_rfl))
 t0 := Tryz.underlying0
 a0 := Tryz.isAgg0
 z0 := Tryz.sizeOf0
 v0 := Tryz.zeroValue0
 t3 := Tryz.underlying3
 a3 := Tryz.isAgg3
 z3 := Tryz.sizeOf3
 v3 := Tryz.zeroValue3
 t4 := Tryz.underlying4
 a4 := Tryz.isAgg4
 z4 := Tryz.sizeOf4
 v4 := Tryz.zeroValue4
 t37 := Tryz.underlying23
 a37 := Tryz.isAgg23
 z37 := Tryz.sizeOf23
 v37 := Tryz.zeroValue23
 t93 := Tryz.underlying231
 a93 := Tryz.isAgg231
 z93 := Tryz.sizeOf231
 v93 := Tryz.zeroValue231
 t130 := Tryz.underlying265
 a130 := Tryz.isAgg265
 z130 := Tryz.sizeOf265
 v130 := Tryz.zeroValue265
 t5 := Tryz.underlying5
 a5 := Tryz.isAgg5
 z5 := Tryz.sizeOf5
 v5 := Tryz.zeroValue5
 t91 := Tryz.underlying229
 a91 := Tryz.isAgg229
 z91 := Tryz.sizeOf229
 v91 := Tryz.zeroValue229
 i0 := by kernel_rfl
 i3 := by kernel_rfl
 i4 := by kernel_rfl
 i5 := by kernel_rfl
 i37 := by kernel_rfl
 i91 := by kernel_rfl
 i93 := by kernel_rfl
 i130 := by kernel_rfl }
def Tryz.laysM324_ren : Go.Shelf.Ren := ⟨fun | 324 => 285 | n => n, fun | 20 => 20 | 4 => 4 | 75 => 133 | 0 => 0 | 80 => 144 | 9 => 9 | n => n, fun | 14 => 0 | n => n⟩
open Go.RowKit in
/-- tryGrowByReslice: EITHER there is room: the place to write at is the old length, and the buffer holds the old bytes and n more of whatever lay there; OR there is none: nothing turns, and 'Lib.NoRoom' is what grow asks. (LAID: no walk: one application.) -/
theorem Tryz.Buffer_tryGrow (B b n : Nat) (bs : List Value) (w : World) (h : Lib.IsBuffer 231 5 B b bs w) :
  Calls Tryz.prog 201 #[.pointer (some ⟨b, 0, none⟩), .int .i64 n] w fun e w' =>
   (e = .returned (.tuple #[.int .i64 bs.length, .bool true]) ∧ ∃ xs, xs.length = n ∧ Lib.IsBuffer 231 5 B b (bs ++ xs) w' ∧ Below B w w') ∨
   (e = .returned (.tuple #[.int .i64 0, .bool false]) ∧ w' = w ∧ Lib.NoRoom b n w) := Any.Buffer_tryGrow Tryz.laysM251 B b n bs w h
def Tryz.laysM178_ren : Go.Shelf.Ren := ⟨fun | 178 => 151 | 251 => 201 | 252 => 202 | 181 => 248 | 184 => 249 | 290 => 250 | 324 => 285 | n => n, fun | 130 => 265 | 9 => 9 | 3 => 3 | 75 => 133 | 0 => 0 | 93 => 231 | 91 => 229 | 131 => 118 | 4 => 4 | 37 => 23 | 20 => 20 | 80 => 144 | 5 => 5 | n => n, fun | 14 => 0 | n => n⟩
theorem Tryz.laysM178 : Go.Proofs.LaysM.n178 Tryz.prog Tryz.laysM178_ren := {
 mixed := by kernel_rfl
 f178 := Tryz.func151.trans (congrArg some (by kernel_rfl))
 f181 := Tryz.func248.trans (congrArg some (by kernel_rfl))
 f184 := Tryz.func249.trans (congrArg some (by kernel_rfl))
 f251 := Tryz.func201.trans (congrArg some (by kernel_rfl))
 f252 := Tryz.func202.trans (congrArg some (by kernel_rfl))
 f290 := Tryz.func250.trans (congrArg some (by kernel_rfl))
 f324 := Tryz.func285.trans (congrArg some (by kernel_rfl))
 t0 := Tryz.underlying0
 a0 := Tryz.isAgg0
 z0 := Tryz.sizeOf0
 v0 := Tryz.zeroValue0
 t3 := Tryz.underlying3
 a3 := Tryz.isAgg3
 z3 := Tryz.sizeOf3
 v3 := Tryz.zeroValue3
 t4 := Tryz.underlying4
 a4 := Tryz.isAgg4
 z4 := Tryz.sizeOf4
 v4 := Tryz.zeroValue4
 t9 := Tryz.underlying9
 a9 := Tryz.isAgg9
 z9 := Tryz.sizeOf9
 v9 := Tryz.zeroValue9
 t20 := Tryz.underlying20
 a20 := Tryz.isAgg20
 z20 := Tryz.sizeOf20
 v20 := Tryz.zeroValue20
 t37 := Tryz.underlying23
 a37 := Tryz.isAgg23
 z37 := Tryz.sizeOf23
 v37 := Tryz.zeroValue23
 t75 := Tryz.underlying133
 a75 := Tryz.isAgg133
 z75 := Tryz.sizeOf133
 v75 := Tryz.zeroValue133
 t91 := Tryz.underlying229
 a91 := Tryz.isAgg229
 z91 := Tryz.sizeOf229
 v91 := Tryz.zeroValue229
 t93 := Tryz.underlying231
 a93 := Tryz.isAgg231
 z93 := Tryz.sizeOf231
 v93 := Tryz.zeroValue231
 t130 := Tryz.underlying265
 a130 := Tryz.isAgg265
 z130 := Tryz.sizeOf265
 v130 := Tryz.zeroValue265
 t131 := Tryz.underlying118
 a131 := Tryz.isAgg118
 z131 := Tryz.sizeOf118
 v131 := Tryz.zeroValue118
 g14 := by kernel_rfl
 t5 := Tryz.underlying5
 a5 := Tryz.isAgg5
 z5 := Tryz.sizeOf5
 v5 := Tryz.zeroValue5
 t80 := Tryz.underlying144
 a80 := Tryz.isAgg144
 z80 := Tryz.sizeOf144
 v80 := Tryz.zeroValue144
 i0 := by kernel_rfl
 i3 := by kernel_rfl
 i4 := by kernel_rfl
 i5 := by kernel_rfl
 i9 := by kernel_rfl
 i20 := by kernel_rfl
 i37 := by kernel_rfl
 i75 := by kernel_rfl
 i80 := by kernel_rfl
 i91 := by kernel_rfl
 i93 := by kernel_rfl
 i130 := by kernel_rfl
 i131 := by kernel_rfl
 m14 := by kernel_rfl }
open Go.RowKit in
/-- (*bytes.Buffer).WriteString: "WriteString appends the contents of s to the buffer, growing the buffer as needed. The return value n is the length of s; err is always nil." (LAID: no walk: one application.) -/
theorem Tryz.Buffer_WriteString (B b : Nat) (bs : List Value) (s : ByteArray) (w : World) (h : Lib.IsBuffer 231 5 B b bs w) (hBw : B ≤ w.heap.size) (h1 : ∀ v ∈ bs, v.oneCell' = true) (hlim : bs.length + s.size ≤ 140737488355328) :
  Calls Tryz.prog 151 #[.pointer (some ⟨b, 0, none⟩), .string s] w fun e w' => e = .returned (.tuple #[.int .i64 s.size, .nilIface]) ∧ Lib.IsBuffer 231 5 B b (bs ++ Lib.byteCells s.data.toList) w' ∧ Below B w w' := Any.Buffer_WriteString Tryz.laysM178 B b bs s w h hBw h1 hlim
def Tryz.laysM180_ren : Go.Shelf.Ren := ⟨fun | 180 => 153 | 251 => 201 | 252 => 202 | 181 => 248 | 184 => 249 | 290 => 250 | 324 => 285 | n => n, fun | 130 => 265 | 37 => 23 | 3 => 3 | 75 => 133 | 0 => 0 | 93 => 231 | 91 => 229 | 131 => 118 | 4 => 4 | 20 => 20 | 5 => 5 | 80 => 144 | 9 => 9 | n => n, fun | 14 => 0 | n => n⟩
theorem Tryz.laysM180 : Go.Proofs.LaysM.n180 Tryz.prog Tryz.laysM180_ren := {
 mixed := by kernel_rfl
 f180 := Tryz.func153.trans (congrArg some (by kernel_rfl))
 f181 := Tryz.func248.trans (congrArg some (by kernel_rfl))
 f184 := Tryz.func249.trans (congrArg some (by kernel_rfl))
 f251 := Tryz.func201.trans (congrArg some (by kernel_rfl))
 f252 := Tryz.func202.trans (congrArg some (by kernel_rfl))
 f290 := Tryz.func250.trans (congrArg some (by kernel_rfl))
 f324 := Tryz.func285.trans (congrArg some (by kernel_rfl))
 t0 := Tryz.underlying0
 a0 := Tryz.isAgg0
 z0 := Tryz.sizeOf0
 v0 := Tryz.zeroValue0
 t3 := Tryz.underlying3
 a3 := Tryz.isAgg3
 z3 := Tryz.sizeOf3
 v3 := Tryz.zeroValue3
 t4 := Tryz.underlying4
 a4 := Tryz.isAgg4
 z4 := Tryz.sizeOf4
 v4 := Tryz.zeroValue4
 t20 := Tryz.underlying20
 a20 := Tryz.isAgg20
 z20 := Tryz.sizeOf20
 v20 := Tryz.zeroValue20
 t37 := Tryz.underlying23
 a37 := Tryz.isAgg23
 z37 := Tryz.sizeOf23
 v37 := Tryz.zeroValue23
 t75 := Tryz.underlying133
 a75 := Tryz.isAgg133
 z75 := Tryz.sizeOf133
 v75 := Tryz.zeroValue133
 t91 := Tryz.underlying229
 a91 := Tryz.isAgg229
 z91 := Tryz.sizeOf229
 v91 := Tryz.zeroValue229
 t93 := Tryz.underlying231
 a93 := Tryz.isAgg231
 z93 := Tryz.sizeOf231
 v93 := Tryz.zeroValue231
 t130 := Tryz.underlying265
 a130 := Tryz.isAgg265
 z130 := Tryz.sizeOf265
 v130 := Tryz.zeroValue265
 t131 := Tryz.underlying118
 a131 := Tryz.isAgg118
 z131 := Tryz.sizeOf118
 v131 := Tryz.zeroValue118
 g14 := by kernel_rfl
 t5 := Tryz.underlying5
 a5 := Tryz.isAgg5
 z5 := Tryz.sizeOf5
 v5 := Tryz.zeroValue5
 t9 := Tryz.underlying9
 a9 := Tryz.isAgg9
 z9 := Tryz.sizeOf9
 v9 := Tryz.zeroValue9
 t80 := Tryz.underlying144
 a80 := Tryz.isAgg144
 z80 := Tryz.sizeOf144
 v80 := Tryz.zeroValue144
 i0 := by kernel_rfl
 i3 := by kernel_rfl
 i4 := by kernel_rfl
 i5 := by kernel_rfl
 i9 := by kernel_rfl
 i20 := by kernel_rfl
 i37 := by kernel_rfl
 i75 := by kernel_rfl
 i80 := by kernel_rfl
 i91 := by kernel_rfl
 i93 := by kernel_rfl
 i130 := by kernel_rfl
 i131 := by kernel_rfl
 m14 := by kernel_rfl }
open Go.RowKit in
/-- (*bytes.Buffer).Write: "Write appends the contents of p to the buffer, growing the buffer as needed. The return value n is the length of p; err is always nil." (LAID: no walk: one application.) -/
theorem Tryz.Buffer_Write (B b : Nat) (bs cs : List Value) (a : Addr) (n c : Nat) (w : World) (h : Lib.IsBuffer 231 5 B b bs w) (hBw : B ≤ w.heap.size) (h1 : ∀ v ∈ bs, v.oneCell' = true) (hn : cs.length = n) (haB : a.block < B) (hsrc : ∀ j v, cs[j]? = some v → w.cell? (a.add j) = some v) (h1c : ∀ v ∈ cs, v.oneCell' = true) (hlim : bs.length + n ≤ 140737488355328) :
  Calls Tryz.prog 153 #[.pointer (some ⟨b, 0, none⟩), .slice (some a) n c] w fun e w' => e = .returned (.tuple #[.int .i64 n, .nilIface]) ∧ Lib.IsBuffer 231 5 B b (bs ++ cs) w' ∧ Below B w w' := Any.Buffer_Write Tryz.laysM180 B b bs cs a n c w h hBw h1 hn haB hsrc h1c hlim
def Tryz.laysM183_ren : Go.Shelf.Ren := ⟨fun | 183 => 154 | n => n, fun | 130 => 265 | 37 => 23 | 0 => 0 | 93 => 231 | 3 => 3 | 5 => 5 | 91 => 229 | n => n, fun | n => n⟩
theorem Tryz.laysM183 : Go.Proofs.LaysM.n183 Tryz.prog Tryz.laysM183_ren := {
 mixed := by kernel_rfl
 f183 := Tryz.func154.trans (congrArg some (by kernel_rfl))
 t0 := Tryz.underlying0
 a0 := Tryz.isAgg0
 z0 := Tryz.sizeOf0
 v0 := Tryz.zeroValue0
 t3 := Tryz.underlying3
 a3 := Tryz.isAgg3
 z3 := Tryz.sizeOf3
 v3 := Tryz.zeroValue3
 t37 := Tryz.underlying23
 a37 := Tryz.isAgg23
 z37 := Tryz.sizeOf23
 v37 := Tryz.zeroValue23
 t93 := Tryz.underlying231
 a93 := Tryz.isAgg231
 z93 := Tryz.sizeOf231
 v93 := Tryz.zeroValue231
 t130 := Tryz.underlying265
 a130 := Tryz.isAgg265
 z130 := Tryz.sizeOf265
 v130 := Tryz.zeroValue265
 t5 := Tryz.underlying5
 a5 := Tryz.isAgg5
 z5 := Tryz.sizeOf5
 v5 := Tryz.zeroValue5
 t91 := Tryz.underlying229
 a91 := Tryz.isAgg229
 z91 := Tryz.sizeOf229
 v91 := Tryz.zeroValue229
 i0 := by kernel_rfl
 i3 := by kernel_rfl
 i5 := by kernel_rfl
 i37 := by kernel_rfl
 i91 := by kernel_rfl
 i93 := by kernel_rfl
 i130 := by kernel_rfl }
open Go.RowKit in
/-- (*bytes.Buffer).Bytes: "Bytes returns a slice of length b.Len() holding the unread portion of the buffer. .. The slice aliases the buffer content at least until the next buffer modification": A SLICE THAT OWNS THE CELLS bs ('World.ownsRow': nil where nothing was ever written). The world is as it was but for the count of draws. (LAID: no walk: one application.) -/
theorem Tryz.Buffer_Bytes (B b : Nat) (bs : List Value) (w : World) (h : Lib.IsBuffer 231 5 B b bs w) :
  Calls Tryz.prog 154 #[.pointer (some ⟨b, 0, none⟩)] w fun e w' => ∃ v, e = .returned v ∧ w'.ownsRow B 5 1 v bs.length bs ∧ ∃ n, w' = w.drewN n := Any.Buffer_Bytes Tryz.laysM183 B b bs w h
def Tryz.lays219_ren : Go.Shelf.Ren := ⟨fun | 219 => 238 | 217 => 219 | 225 => 278 | 224 => 279 | 267 => 280 | 266 => 271 | 314 => 302 | n => n, fun | 9 => 9 | 3 => 3 | 4 => 4 | 5 => 5 | 46 => 163 | 146 => 334 | 51 => 253 | n => n, fun | 1 => 1 | n => n⟩
def Tryz.lays143_ren : Go.Shelf.Ren := ⟨fun | 143 => 224 | 219 => 238 | 217 => 219 | 225 => 278 | 224 => 279 | 267 => 280 | 266 => 271 | 314 => 302 | n => n, fun | 9 => 9 | 3 => 3 | 4 => 4 | 5 => 5 | 46 => 163 | 146 => 334 | 51 => 253 | n => n, fun | 1 => 1 | n => n⟩
theorem Tryz.lays143 : Go.Proofs.Lays.n143 Tryz.prog Tryz.lays143_ren := {
 mixed := by kernel_rfl
 f143 := Tryz.func224.trans (congrArg some (by kernel_rfl))
 f217 := Tryz.func219.trans (congrArg some (by kernel_rfl))
 f219 := Tryz.func238.trans (congrArg some (by kernel_rfl))
 f224 := Tryz.func279.trans (congrArg some (by kernel_rfl))
 f225 := Tryz.func278.trans (congrArg some (by kernel_rfl))
 f266 := Tryz.func271.trans (congrArg some (by kernel_rfl))
 f267 := Tryz.func280.trans (congrArg some (by kernel_rfl))
 f314 := Tryz.func302.trans (congrArg some (by kernel_rfl))
 t3 := Tryz.underlying3
 a3 := Tryz.isAgg3
 z3 := Tryz.sizeOf3
 v3 := Tryz.zeroValue3
 t4 := Tryz.underlying4
 a4 := Tryz.isAgg4
 z4 := Tryz.sizeOf4
 v4 := Tryz.zeroValue4
 t5 := Tryz.underlying5
 a5 := Tryz.isAgg5
 z5 := Tryz.sizeOf5
 v5 := Tryz.zeroValue5
 t9 := Tryz.underlying9
 a9 := Tryz.isAgg9
 z9 := Tryz.sizeOf9
 v9 := Tryz.zeroValue9
 t46 := Tryz.underlying163
 a46 := Tryz.isAgg163
 z46 := Tryz.sizeOf163
 v46 := Tryz.zeroValue163
 t51 := Tryz.underlying253
 a51 := Tryz.isAgg253
 z51 := Tryz.sizeOf253
 v51 := Tryz.zeroValue253
 t146 := Tryz.underlying334
 a146 := Tryz.isAgg334
 z146 := Tryz.sizeOf334
 v146 := Tryz.zeroValue334
 g1 := by kernel_rfl }
open Go.RowKit Go.Lib in
/-- strings.Index: "Index returns the index of the first instance of substr in s, or -1 if substr is not present in s.": IT RETURNS 'Lib.index s substr'; the world is as it was. (LAID: no walk: one application.) -/
theorem Tryz.strings_Index (s sub : ByteArray) (m : Int) (w : World) (hs : s.size < 4294967281) (hm : w.cell? ⟨1, 0, none⟩ = some (.int .i64 m)) :
  Calls Tryz.prog 224 #[.string s, .string sub] w fun e w' => e = .returned (.int .i64 (Lib.index s.data.toList sub.data.toList)) ∧ w' = w := Any.strings_Index Tryz.lays143 s sub m w hs hm
def Tryz.lays145_ren : Go.Shelf.Ren := ⟨fun | 145 => 144 | 220 => 195 | 219 => 238 | 217 => 219 | 225 => 278 | 224 => 279 | 267 => 280 | 266 => 271 | 314 => 302 | n => n, fun | 9 => 9 | 4 => 4 | 59 => 223 | 3 => 3 | 5 => 5 | 46 => 163 | 146 => 334 | 51 => 253 | n => n, fun | 1 => 1 | n => n⟩
theorem Tryz.lays145 : Go.Proofs.Lays.n145 Tryz.prog Tryz.lays145_ren := {
 mixed := by kernel_rfl
 f145 := Tryz.func144.trans (congrArg some (by kernel_rfl))
 f217 := Tryz.func219.trans (congrArg some (by kernel_rfl))
 f219 := Tryz.func238.trans (congrArg some (by kernel_rfl))
 f220 := Tryz.func195.trans (congrArg some (by kernel_rfl))
 f224 := Tryz.func279.trans (congrArg some (by kernel_rfl))
 f225 := Tryz.func278.trans (congrArg some (by kernel_rfl))
 f266 := Tryz.func271.trans (congrArg some (by kernel_rfl))
 f267 := Tryz.func280.trans (congrArg some (by kernel_rfl))
 f314 := Tryz.func302.trans (congrArg some (by kernel_rfl))
 t3 := Tryz.underlying3
 a3 := Tryz.isAgg3
 z3 := Tryz.sizeOf3
 v3 := Tryz.zeroValue3
 t4 := Tryz.underlying4
 a4 := Tryz.isAgg4
 z4 := Tryz.sizeOf4
 v4 := Tryz.zeroValue4
 t5 := Tryz.underlying5
 a5 := Tryz.isAgg5
 z5 := Tryz.sizeOf5
 v5 := Tryz.zeroValue5
 t9 := Tryz.underlying9
 a9 := Tryz.isAgg9
 z9 := Tryz.sizeOf9
 v9 := Tryz.zeroValue9
 t46 := Tryz.underlying163
 a46 := Tryz.isAgg163
 z46 := Tryz.sizeOf163
 v46 := Tryz.zeroValue163
 t51 := Tryz.underlying253
 a51 := Tryz.isAgg253
 z51 := Tryz.sizeOf253
 v51 := Tryz.zeroValue253
 t59 := Tryz.underlying223
 a59 := Tryz.isAgg223
 z59 := Tryz.sizeOf223
 v59 := Tryz.zeroValue223
 t146 := Tryz.underlying334
 a146 := Tryz.isAgg334
 z146 := Tryz.sizeOf334
 v146 := Tryz.zeroValue334
 g1 := by kernel_rfl }
open Go.RowKit Go.Lib in
/-- strings.Cut: "Cut slices s around the first instance of sep, returning the text before and after sep. The found result reports whether sep appears in s. If sep does not appear in s, cut returns s, "", false.": IT RETURNS 'Lib.cut s sep'; the world is as it was but for the count of draws. (LAID: no walk: one application.) -/
theorem Tryz.strings_Cut (s sep : ByteArray) (m : Int) (w : World) (hs : s.size < 4294967281) (hm : w.cell? ⟨1, 0, none⟩ = some (.int .i64 m)) :
  Calls Tryz.prog 144 #[.string s, .string sep] w fun e w' => e = .returned (.tuple #[.string ⟨(Lib.cut s.data.toList sep.data.toList).1.toArray⟩, .string ⟨(Lib.cut s.data.toList sep.data.toList).2.1.toArray⟩, .bool (Lib.cut s.data.toList sep.data.toList).2.2]) ∧ ∃ n, w' = w.drewN n := Any.strings_Cut Tryz.lays145 s sep m w hs hm
def Tryz.laysGw17_ren : Go.Shelf.Ren := ⟨fun | 17 => 198 | 15 => 240 | 20 => 281 | n => n, fun | 9 => 9 | 23 => 244 | 4 => 4 | 3 => 3 | 0 => 0 | 21 => 21 | n => n, fun | n => n⟩
theorem Tryz.laysGw17 : Go.Proofs.LaysGw.n17 Tryz.prog Tryz.laysGw17_ren := {
 mixed := by kernel_rfl
 f15 := Tryz.func240.trans (congrArg some (by kernel_rfl))
 f17 := Tryz.func198.trans (congrArg some (by kernel_rfl))
 f20 := Tryz.func281.trans (congrArg some (by kernel_rfl))
 t0 := Tryz.underlying0
 a0 := Tryz.isAgg0
 z0 := Tryz.sizeOf0
 v0 := Tryz.zeroValue0
 i0 := by kernel_rfl
 t3 := Tryz.underlying3
 a3 := Tryz.isAgg3
 z3 := Tryz.sizeOf3
 v3 := Tryz.zeroValue3
 i3 := by kernel_rfl
 t4 := Tryz.underlying4
 a4 := Tryz.isAgg4
 z4 := Tryz.sizeOf4
 v4 := Tryz.zeroValue4
 i4 := by kernel_rfl
 t9 := Tryz.underlying9
 a9 := Tryz.isAgg9
 z9 := Tryz.sizeOf9
 v9 := Tryz.zeroValue9
 i9 := by kernel_rfl
 t21 := Tryz.underlying21
 a21 := Tryz.isAgg21
 z21 := Tryz.sizeOf21
 v21 := Tryz.zeroValue21
 i21 := by kernel_rfl
 t23 := Tryz.underlying244
 a23 := Tryz.isAgg244
 z23 := Tryz.sizeOf244
 v23 := Tryz.zeroValue244
 i23 := by kernel_rfl }
open Go.RowKit Go.Lib in
theorem Tryz.strings_ContainsFunc (g : Nat) (lb : Array Value) (eg : ∀ args w, (callFunc g args).run Tryz.prog w = .ok (.enter g args) w) (p : Nat → Bool) (s : ByteArray) (w : World) (hp : PredAt Tryz.prog g lb encR p w) :
  Calls Tryz.prog 198 #[.string s, .func (.func g) #[] lb] w fun e w' => e = .returned (.bool (decide (0 ≤ Lib.idxFunc p true s))) ∧ Below w.heap.size w w' := Any.strings_ContainsFunc Tryz.laysGw17 g lb eg p s w hp
def Tryz.lays206_ren : Go.Shelf.Ren := ⟨fun | 206 => 169 | n => n, fun | 9 => 9 | 4 => 4 | 3 => 3 | n => n, fun | n => n⟩
def Tryz.lays99_ren : Go.Shelf.Ren := ⟨fun | 99 => 117 | 206 => 169 | n => n, fun | 9 => 9 | 4 => 4 | 3 => 3 | n => n, fun | n => n⟩
theorem Tryz.lays99 : Go.Proofs.Lays.n99 Tryz.prog Tryz.lays99_ren := {
 mixed := by kernel_rfl
 f99 := Tryz.func117.trans (congrArg some (by kernel_rfl))
 f206 := Tryz.func169.trans (congrArg some (by kernel_rfl))
 t3 := Tryz.underlying3
 a3 := Tryz.isAgg3
 z3 := Tryz.sizeOf3
 v3 := Tryz.zeroValue3
 t4 := Tryz.underlying4
 a4 := Tryz.isAgg4
 z4 := Tryz.sizeOf4
 v4 := Tryz.zeroValue4
 t9 := Tryz.underlying9
 a9 := Tryz.isAgg9
 z9 := Tryz.sizeOf9
 v9 := Tryz.zeroValue9 }
open Go.RowKit Go.Lib in
/-- strings.HasPrefix: "HasPrefix reports whether the string s begins with prefix.": IT RETURNS 'Lib.hasPrefix s prefix'; the world is as it was. (LAID: no walk: one application.) -/
theorem Tryz.strings_HasPrefix (s p : ByteArray) (w : World) :
  Calls Tryz.prog 117 #[.string s, .string p] w fun e w' => e = .returned (.bool (Lib.hasPrefix s.data.toList p.data.toList)) ∧ w' = w := Any.strings_HasPrefix Tryz.lays99 s p w
def Tryz.lays100_ren : Go.Shelf.Ren := ⟨fun | 100 => 221 | 207 => 274 | n => n, fun | 9 => 9 | 4 => 4 | 3 => 3 | n => n, fun | n => n⟩
theorem Tryz.lays100 : Go.Proofs.Lays.n100 Tryz.prog Tryz.lays100_ren := {
 mixed := by kernel_rfl
 f100 := Tryz.func221.trans (congrArg some (by kernel_rfl))
 f207 := Tryz.func274.trans (congrArg some (by kernel_rfl))
 t3 := Tryz.underlying3
 a3 := Tryz.isAgg3
 z3 := Tryz.sizeOf3
 v3 := Tryz.zeroValue3
 t4 := Tryz.underlying4
 a4 := Tryz.isAgg4
 z4 := Tryz.sizeOf4
 v4 := Tryz.zeroValue4
 t9 := Tryz.underlying9
 a9 := Tryz.isAgg9
 z9 := Tryz.sizeOf9
 v9 := Tryz.zeroValue9 }
open Go.RowKit Go.Lib in
/-- strings.HasSuffix: "HasSuffix reports whether the string s ends with suffix.": IT RETURNS 'Lib.hasSuffix s suffix'; the world is as it was. ('hs': no Go string is longer: a caller has it of every string that it was handed.) (LAID: no walk: one application.) -/
theorem Tryz.strings_HasSuffix (s p : ByteArray) (w : World) (hs : s.size ≤ 9223372036854775807) :
  Calls Tryz.prog 221 #[.string s, .string p] w fun e w' => e = .returned (.bool (Lib.hasSuffix s.data.toList p.data.toList)) ∧ w' = w := Any.strings_HasSuffix Tryz.lays100 s p w hs
def Tryz.lays221_ren : Go.Shelf.Ren := ⟨fun | 221 => 196 | 268 => 239 | 138 => 176 | 143 => 224 | 195 => 222 | 197 => 273 | 218 => 223 | 219 => 238 | 260 => 301 | 217 => 219 | 225 => 278 | 224 => 279 | 267 => 280 | 266 => 271 | 314 => 302 | n => n, fun | 9 => 9 | 3 => 3 | 31 => 33 | 4 => 4 | 0 => 0 | 105 => 320 | 21 => 21 | 5 => 5 | 46 => 163 | 119 => 338 | 139 => 341 | 138 => 340 | 146 => 334 | 51 => 253 | n => n, fun | 1 => 1 | 3 => 3 | 4 => 4 | n => n⟩
def Tryz.lays146_ren : Go.Shelf.Ren := ⟨fun | 146 => 145 | 221 => 196 | 268 => 239 | 138 => 176 | 143 => 224 | 195 => 222 | 197 => 273 | 218 => 223 | 219 => 238 | 260 => 301 | 217 => 219 | 225 => 278 | 224 => 279 | 267 => 280 | 266 => 271 | 314 => 302 | n => n, fun | 9 => 9 | 31 => 33 | 3 => 3 | 4 => 4 | 0 => 0 | 105 => 320 | 21 => 21 | 5 => 5 | 46 => 163 | 119 => 338 | 139 => 341 | 138 => 340 | 146 => 334 | 51 => 253 | n => n, fun | 1 => 1 | 3 => 3 | 4 => 4 | n => n⟩
theorem Tryz.lays146 : Go.Proofs.Lays.n146 Tryz.prog Tryz.lays146_ren := {
 mixed := by kernel_rfl
 f138 := Tryz.func176.trans (congrArg some (by kernel_rfl))
 f143 := Tryz.func224.trans (congrArg some (by kernel_rfl))
 f146 := Tryz.func145.trans (congrArg some (by kernel_rfl))
 f195 := Tryz.func222.trans (congrArg some (by kernel_rfl))
 f197 := Tryz.func273.trans (congrArg some (by kernel_rfl))
 f217 := Tryz.func219.trans (congrArg some (by kernel_rfl))
 f218 := Tryz.func223.trans (congrArg some (by kernel_rfl))
 f219 := Tryz.func238.trans (congrArg some (by kernel_rfl))
 f221 := Tryz.func196.trans (congrArg some (by kernel_rfl))
 f224 := Tryz.func279.trans (congrArg some (by kernel_rfl))
 f225 := Tryz.func278.trans (congrArg some (by kernel_rfl))
 f260 := Tryz.func301.trans (congrArg some (by kernel_rfl))
 f266 := Tryz.func271.trans (congrArg some (by kernel_rfl))
 f267 := Tryz.func280.trans (congrArg some (by kernel_rfl))
 f268 := Tryz.func239.trans (congrArg some (by kernel_rfl))
 f314 := Tryz.func302.trans (congrArg some (by kernel_rfl))
 t0 := Tryz.underlying0
 a0 := Tryz.isAgg0
 z0 := Tryz.sizeOf0
 v0 := Tryz.zeroValue0
 t3 := Tryz.underlying3
 a3 := Tryz.isAgg3
 z3 := Tryz.sizeOf3
 v3 := Tryz.zeroValue3
 t4 := Tryz.underlying4
 a4 := Tryz.isAgg4
 z4 := Tryz.sizeOf4
 v4 := Tryz.zeroValue4
 t5 := Tryz.underlying5
 a5 := Tryz.isAgg5
 z5 := Tryz.sizeOf5
 v5 := Tryz.zeroValue5
 t9 := Tryz.underlying9
 a9 := Tryz.isAgg9
 z9 := Tryz.sizeOf9
 v9 := Tryz.zeroValue9
 t21 := Tryz.underlying21
 a21 := Tryz.isAgg21
 z21 := Tryz.sizeOf21
 v21 := Tryz.zeroValue21
 t31 := Tryz.underlying33
 a31 := Tryz.isAgg33
 z31 := Tryz.sizeOf33
 v31 := Tryz.zeroValue33
 t46 := Tryz.underlying163
 a46 := Tryz.isAgg163
 z46 := Tryz.sizeOf163
 v46 := Tryz.zeroValue163
 t51 := Tryz.underlying253
 a51 := Tryz.isAgg253
 z51 := Tryz.sizeOf253
 v51 := Tryz.zeroValue253
 t105 := Tryz.underlying320
 a105 := Tryz.isAgg320
 z105 := Tryz.sizeOf320
 v105 := Tryz.zeroValue320
 t119 := Tryz.underlying338
 a119 := Tryz.isAgg338
 z119 := Tryz.sizeOf338
 t138 := Tryz.underlying340
 a138 := Tryz.isAgg340
 z138 := Tryz.sizeOf340
 v138 := Tryz.zeroValue340
 t139 := Tryz.underlying341
 a139 := Tryz.isAgg341
 z139 := Tryz.sizeOf341
 v139 := Tryz.zeroValue341
 t146 := Tryz.underlying334
 a146 := Tryz.isAgg334
 z146 := Tryz.sizeOf334
 v146 := Tryz.zeroValue334
 g1 := by kernel_rfl
 g3 := by kernel_rfl
 g4 := by kernel_rfl }
open Go.RowKit Go.Lib in
/-- strings.Split. (LAID: no walk: one application.) -/
theorem Tryz.strings_Split (s sep : ByteArray) (m : Int) (w : World) (hs : s.size < 4294967281) (hm : w.cell? ⟨1, 0, none⟩ = some (.int .i64 m)) (h1 : 1 ≤ sep.size) :
  Calls Tryz.prog 145 #[.string s, .string sep] w fun e w' =>
   e = .returned (.slice (some ⟨w.heap.size, 0, none⟩) (Lib.countB s sep + 1) (Lib.countB s sep + 1)) ∧ w' = w.alloc (.cells ((Lib.splitB sep 0 (Lib.countB s sep) s).map Value.string).toArray 9) := Any.strings_Split Tryz.lays146 (by kernel_rfl) s sep m w hs hm h1
def Tryz.laysSlK4_ren : Go.Shelf.Ren := ⟨fun | 4 => 150 | n => n, fun | 22 => 23 | 4 => 4 | 5 => 5 | n => n, fun | n => n⟩
theorem Tryz.laysSlK4 : Go.Proofs.SlLaysK.n4 Tryz.prog Tryz.laysSlK4_ren := {
 mixed := by kernel_rfl
 f4 := Tryz.func150.trans (congrArg some (by kernel_rfl))
 t4 := Tryz.underlying4
 a4 := Tryz.isAgg4
 z4 := Tryz.sizeOf4
 v4 := Tryz.zeroValue4
 t22 := Tryz.underlying23
 a22 := Tryz.isAgg23
 z22 := Tryz.sizeOf23
 v22 := Tryz.zeroValue23
 t5 := Tryz.underlying5
 i5 := by kernel_rfl }
open Go.RowKit Go.Lib in
/-- bytes.Clone: "Clone returns a copy of b[:len(b)]. The result may have additional unused capacity.": OF A SLICE THAT IS NOT nil IT RETURNS A SLICE THAT IS NOT nil, OF THE SAME BYTES, IN MEMORY OF THE CALL's OWN: in the how-to's words (6f): 'w'.ownsRow B e 1 v' n cells' · 'Below B w w'', B the heap's size at the call. b AT WHATEVER ADDRESS, its cells as 'open_ints' hands them ('a.add i'; the numbers 'xs'). No byte: no cell is asked for. (LAID: no walk: one application.) -/
theorem Tryz.bytes_Clone_at (a : Addr) (n c : Nat) (xs : List Int) (w : World) (hx : xs.length = n) (hbig : n ≤ 140737488355328) (hc : ∀ i, i < n → w.cell? (a.add i) = some (.int .u8 (xs.getD i 0))) :
  Calls Tryz.prog 150 #[.slice (some a) n c] w fun e w' => ∃ v', e = .returned v' ∧ w'.ownsRow w.heap.size 5 1 v' n (xs.map (Value.int .u8)) ∧ v' ≠ .slice none 0 0 ∧ Below w.heap.size w w' := Any.bytes_Clone_at Tryz.laysSlK4 a n c xs w hx hbig hc
open Go.RowKit Go.Lib in
/-- "Clone(nil) returns nil.": the world is as it was. (LAID: no walk: one application.) -/
theorem Tryz.bytes_Clone_nil (n c : Nat) (w : World) :
  Calls Tryz.prog 150 #[.slice none n c] w fun e w' => e = .returned (.slice none 0 0) ∧ w' = w := Any.bytes_Clone_nil Tryz.laysSlK4 n c w
end Go.Proofs
