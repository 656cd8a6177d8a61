/- Parts of the proof: rules for an abstract memory, plain laws, and walks through the program. -/
import Derived.Test.YtljahedgdjnohaaDoorSetP0
import Derived.Shelf.Strings.Builder1
import Derived.Shelf.Strings.Builder2
import Derived.Shelf.Strings.OnBuilder
import Derived.Shelf.Strings.BuilderF
import Derived.Shelf.Strings.BuilderK
import Derived.Shelf.Utf8.RuneCount
import Derived.Shelf.Strings.Builder2Cap
import Derived.Shelf.Strconv.Atoi
import Derived.Shelf.Strconv.Itoa0
import Derived.Shelf.Strconv.Itoa1
import Derived.Shelf.LaysM
import Derived.Shelf.Strconv.Itoa2
import Derived.Shelf.Strconv.Itoa3
import Derived.Shelf.Strconv.AtoiErrFast
import Derived.Shelf.Strconv.ParseIntEmpty
import Derived.Shelf.Strconv.AtoiFail
import Derived.Shelf.Strconv.Clone
import Derived.Shelf.Strconv.SyntaxError
import Derived.Shelf.LaysC
import Derived.Shelf.Strconv.ToError
import Derived.Shelf.Strconv.AtoiErr
import Derived.Shelf.Strconv.Lower
import Derived.Shelf.Strconv.ParseUint10
import Derived.Shelf.Strconv.ParseUint10Empty
import Derived.Shelf.Strconv.ParseUint10Any
import Derived.Shelf.Strconv.ParseInt10
import Derived.Shelf.Strconv.AtoiLong
import Derived.Shelf.Strconv.AtoiInnerAll
import Derived.Shelf.Strconv.RangeError
import Derived.Shelf.Strconv.ToErrorRange
import Derived.Shelf.Strconv.AtoiAll
import Derived.Shelf.Strconv.ParseUintEmpty
import Derived.Shelf.Strconv.ParseUint10b64
import Derived.Shelf.Strconv.ParseUint10b32
import Derived.Shelf.Strconv.ParseUint10b16
import Derived.Shelf.Strconv.ParseUint10b8
import Derived.Shelf.Strconv.ParseUint10At
import Derived.Shelf.Strings.Search1
import Derived.Shelf.Strings.Search2
import Derived.Shelf.Strings.Search3
import Derived.Shelf.Strings.Cut
import Derived.Shelf.Strings.Count
import Derived.Shelf.Strings.Shaped
import Derived.Shelf.Strings.Split
import Derived.Shelf.Strings.SplitShaped
import Derived.Shelf.Unicode.Decode
import Derived.Shelf.Strings.RuneCount
import Derived.Shelf.Strings.Explode
import Derived.Shelf.Unicode.DecodeSlow
import Derived.Shelf.Unicode.DecodeAny
import Derived.Shelf.Strings.BuilderCap
import Derived.Test.YtljahedgdjnohaaDoorProg
import Derived.Laws.Append
import Derived.Laws.AppendOwn
import Derived.Laws.Rows
import Derived.Laws.CopyRow
import Derived.Laws.NewBlocks
import Derived.Deep.LoopGhost
import Derived.Below
import Derived.Tactics
import Derived.Laws.IdiomStrings
import Derived.Lib.TrailingZeros
set_option linter.unusedVariables false
set_option linter.unusedSimpArgs false
/-
  WHAT THE LIBRARY's FUNCTIONS COME TO, at this program's numbers: laid by the kit's own tool; cut to what is used.
-/
namespace Go.Proofs
open Go.Shelf
def Tryd.lays156_ren : Go.Shelf.Ren := ⟨fun | 156 => 29 | 165 => 42 | 166 => 43 | 169 => 44 | 240 => 53 | 241 => 54 | 276 => 69 | 277 => 70 | n => n, fun | 31 => 40 | 9 => 9 | 3 => 3 | 4 => 4 | 0 => 0 | 20 => 20 | 72 => 67 | 76 => 62 | 70 => 64 | 37 => 65 | 75 => 61 | 127 => 75 | 164 => 91 | 5 => 5 | 80 => 69 | n => n, fun | n => n⟩
theorem Tryd.lays156 : Go.Proofs.Lays.n156 Tryd.prog Tryd.lays156_ren := {
  mixed := by kernel_rfl
  f156 := Tryd.func29.trans (congrArg some (by kernel_rfl))
  f165 := Tryd.func42.trans (congrArg some (by kernel_rfl))
  f166 := Tryd.func43.trans (congrArg some (by kernel_rfl))
  f169 := Tryd.func44.trans (congrArg some (by kernel_rfl))
  f240 := Tryd.func53.trans (congrArg some (by kernel_rfl))
  f241 := Tryd.func54.trans (congrArg some (by kernel_rfl))
  f276 := Tryd.func69.trans (congrArg some (by kernel_rfl))
  f277 := Tryd.func70.trans (congrArg some (by kernel_rfl))
  t0 := Tryd.underlying0
  a0 := Tryd.isAgg0
  z0 := Tryd.sizeOf0
  v0 := Tryd.zeroValue0
  t3 := Tryd.underlying3
  a3 := Tryd.isAgg3
  z3 := Tryd.sizeOf3
  v3 := Tryd.zeroValue3
  t4 := Tryd.underlying4
  a4 := Tryd.isAgg4
  z4 := Tryd.sizeOf4
  v4 := Tryd.zeroValue4
  t9 := Tryd.underlying9
  a9 := Tryd.isAgg9
  z9 := Tryd.sizeOf9
  v9 := Tryd.zeroValue9
  t20 := Tryd.underlying20
  a20 := Tryd.isAgg20
  z20 := Tryd.sizeOf20
  v20 := Tryd.zeroValue20
  t31 := Tryd.underlying40
  a31 := Tryd.isAgg40
  z31 := Tryd.sizeOf40
  v31 := Tryd.zeroValue40
  t37 := Tryd.underlying65
  a37 := Tryd.isAgg65
  z37 := Tryd.sizeOf65
  v37 := Tryd.zeroValue65
  t70 := Tryd.underlying64
  a70 := Tryd.isAgg64
  z70 := Tryd.sizeOf64
  v70 := Tryd.zeroValue64
  t72 := Tryd.underlying67
  a72 := Tryd.isAgg67
  z72 := Tryd.sizeOf67
  v72 := Tryd.zeroValue67
  t75 := Tryd.underlying61
  a75 := Tryd.isAgg61
  z75 := Tryd.sizeOf61
  v75 := Tryd.zeroValue61
  t76 := Tryd.underlying62
  a76 := Tryd.isAgg62
  z76 := Tryd.sizeOf62
  v76 := Tryd.zeroValue62
  t127 := Tryd.underlying75
  a127 := Tryd.isAgg75
  z127 := Tryd.sizeOf75
  v127 := Tryd.zeroValue75
  t164 := Tryd.underlying91
  a164 := Tryd.isAgg91
  z164 := Tryd.sizeOf91
  v164 := Tryd.zeroValue91 }
theorem Tryd.Builder_Extra_156 : Builder.Extra Tryd.prog Tryd.lays156_ren := {
  sizeBuilder := by kernel_rfl
  liesBuilder := by kernel_rfl
  t5 := Tryd.underlying5
  a5 := Tryd.isAgg5
  z5 := Tryd.sizeOf5
  v5 := Tryd.zeroValue5
  infoByte := by kernel_rfl
  cellsByte := by kernel_rfl
  sizeByte := by kernel_rfl
  neB5 := by decide }
open Go.RowKit in
theorem Tryd.strings_Join_none (a : Option Addr) (c : Nat) (sep : ByteArray) (w : World) :
    Calls Tryd.prog 29 #[.slice a 0 c, .string sep] w fun e w' => e = .returned (.string ⟨#[]⟩) ∧ w' = w := Any.strings_Join_none Tryd.lays156 Tryd.Builder_Extra_156 a c sep w
open Go.RowKit in
theorem Tryd.strings_Join (bk o c : Nat) (xs : List ByteArray) (sep : ByteArray) (w : World) (hcells : ∀ (j : Nat) x, xs[j]? = some x → w.cell? ⟨bk, o + j, none⟩ = some (.string x)) (hbk : bk < w.heap.size) (hN : xs.length ≤ 140737488355328) (hcap : xs.length ≤ c) (hlen : (Lib.join (xs.map (·.data.toList)) sep.data.toList).length ≤ 140737488355328) :
    Calls Tryd.prog 29 #[.slice (some ⟨bk, o, none⟩) xs.length c, .string sep] w fun e w' => e = .returned (.string ⟨(Lib.join (xs.map (·.data.toList)) sep.data.toList).toArray⟩) ∧ Below w.heap.size w w' := Any.strings_Join Tryd.lays156 Tryd.Builder_Extra_156 bk o c xs sep w hcells hbk hN hcap hlen
def Tryd.laysM171_ren : Go.Shelf.Ren := ⟨fun | 171 => 28 | 243 => 41 | 246 => 52 | 283 => 65 | 284 => 66 | 285 => 67 | 286 => 68 | 129 => 80 | 317 => 79 | 318 => 81 | 319 => 82 | 320 => 83 | 337 => 88 | 338 => 55 | n => n, fun | 3 => 3 | 9 => 9 | 2 => 2 | 4 => 4 | 171 => 87 | 0 => 0 | 53 => 48 | 37 => 65 | 5 => 5 | 173 => 89 | 212 => 104 | 51 => 105 | 20 => 20 | 213 => 106 | 46 => 95 | 232 => 121 | 233 => 94 | n => n, fun | 17 => 4 | 18 => 7 | 19 => 0 | n => n⟩
theorem Tryd.laysM171 : Go.Proofs.LaysM.n171 Tryd.prog Tryd.laysM171_ren := {
  mixed := by kernel_rfl
  f129 := Tryd.func80.trans (congrArg some (by kernel_rfl))
  f171 := Tryd.func28.trans (congrArg some (by kernel_rfl))
  f243 := Tryd.func41.trans (congrArg some (by kernel_rfl))
  f246 := Tryd.func52.trans (congrArg some (by kernel_rfl))
  f283 := Tryd.func65.trans (congrArg some (by kernel_rfl))
  f284 := Tryd.func66.trans (congrArg some (by kernel_rfl))
  f285 := Tryd.func67.trans (congrArg some (by kernel_rfl))
  f286 := Tryd.func68.trans (congrArg some (by kernel_rfl))
  f317 := Tryd.func79.trans (congrArg some (by kernel_rfl))
  f318 := Tryd.func81.trans (congrArg some (by kernel_rfl))
  f319 := Tryd.func82.trans (congrArg some (by kernel_rfl))
  f320 := Tryd.func83.trans (congrArg some (by kernel_rfl))
  f337 := Tryd.func88.trans (congrArg some (by kernel_rfl))
  f338 := Tryd.func55.trans (congrArg some (by kernel_rfl))
  t0 := Tryd.underlying0
  a0 := Tryd.isAgg0
  z0 := Tryd.sizeOf0
  v0 := Tryd.zeroValue0
  t2 := Tryd.underlying2
  a2 := Tryd.isAgg2
  z2 := Tryd.sizeOf2
  v2 := Tryd.zeroValue2
  t3 := Tryd.underlying3
  a3 := Tryd.isAgg3
  z3 := Tryd.sizeOf3
  v3 := Tryd.zeroValue3
  t4 := Tryd.underlying4
  a4 := Tryd.isAgg4
  z4 := Tryd.sizeOf4
  v4 := Tryd.zeroValue4
  t5 := Tryd.underlying5
  a5 := Tryd.isAgg5
  z5 := Tryd.sizeOf5
  v5 := Tryd.zeroValue5
  t9 := Tryd.underlying9
  a9 := Tryd.isAgg9
  z9 := Tryd.sizeOf9
  v9 := Tryd.zeroValue9
  t20 := Tryd.underlying20
  a20 := Tryd.isAgg20
  z20 := Tryd.sizeOf20
  v20 := Tryd.zeroValue20
  t37 := Tryd.underlying65
  a37 := Tryd.isAgg65
  z37 := Tryd.sizeOf65
  v37 := Tryd.zeroValue65
  t46 := Tryd.underlying95
  a46 := Tryd.isAgg95
  z46 := Tryd.sizeOf95
  v46 := Tryd.zeroValue95
  t51 := Tryd.underlying105
  a51 := Tryd.isAgg105
  z51 := Tryd.sizeOf105
  v51 := Tryd.zeroValue105
  t53 := Tryd.underlying48
  a53 := Tryd.isAgg48
  z53 := Tryd.sizeOf48
  v53 := Tryd.zeroValue48
  t171 := Tryd.underlying87
  a171 := Tryd.isAgg87
  z171 := Tryd.sizeOf87
  v171 := Tryd.zeroValue87
  t173 := Tryd.underlying89
  a173 := Tryd.isAgg89
  z173 := Tryd.sizeOf89
  v173 := Tryd.zeroValue89
  t212 := Tryd.underlying104
  a212 := Tryd.isAgg104
  z212 := Tryd.sizeOf104
  v212 := Tryd.zeroValue104
  t213 := Tryd.underlying106
  a213 := Tryd.isAgg106
  z213 := Tryd.sizeOf106
  t232 := Tryd.underlying121
  a232 := Tryd.isAgg121
  z232 := Tryd.sizeOf121
  v232 := Tryd.zeroValue121
  t233 := Tryd.underlying94
  a233 := Tryd.isAgg94
  z233 := Tryd.sizeOf94
  v233 := Tryd.zeroValue94
  g17 := by kernel_rfl
  g18 := by kernel_rfl
  g19 := by kernel_rfl
  i0 := by kernel_rfl
  i2 := by kernel_rfl
  i3 := by kernel_rfl
  i4 := by kernel_rfl
  i5 := by kernel_rfl
  i9 := by kernel_rfl
  i20 := by kernel_rfl
  i37 := by kernel_rfl
  i46 := by kernel_rfl
  i51 := by kernel_rfl
  i53 := by kernel_rfl
  i171 := by kernel_rfl
  i173 := by kernel_rfl
  i212 := by kernel_rfl
  i232 := by kernel_rfl
  i233 := by kernel_rfl
  m17 := by kernel_rfl
  m18 := by kernel_rfl
  m19 := by kernel_rfl }
open Go.RowKit Go.Sort Go.Lib in
theorem Tryd.strconv_Itoa (n : Int) (h0 : -9223372036854775808 ≤ n) (h1 : n ≤ 9223372036854775807) (w : World) (htab : Lib.TabIs Tryd.prog w "internal/strconv.uint64pow10" .u64 Lib.pow10Tab) :
    Calls Tryd.prog 28 #[.int .i64 n] w fun e w' => e = .returned (.string ⟨(Lib.itoa n).toArray⟩) ∧ ∃ k os, w' = grow (w.drewN k) os := Any.strconv_Itoa Tryd.laysM171 n h0 h1 w htab
def Tryd.laysC172_ren : Go.Shelf.Ren := ⟨fun | 172 => 40 | 244 => 50 | 245 => 51 | 247 => 60 | 279 => 61 | 280 => 62 | 281 => 63 | 282 => 64 | 287 => 76 | 316 => 77 | 171 => 28 | 205 => 78 | 321 => 86 | 322 => 87 | 243 => 41 | 246 => 52 | 283 => 65 | 284 => 66 | 285 => 67 | 286 => 68 | 129 => 80 | 317 => 79 | 318 => 81 | 319 => 82 | 320 => 83 | 337 => 88 | 338 => 55 | n => n, fun | 9 => 9 | 3 => 3 | 75 => 61 | 76 => 62 | 4 => 4 | 5 => 5 | 167 => 81 | 37 => 65 | 0 => 0 | 85 => 82 | 2 => 2 | 168 => 84 | 53 => 48 | 175 => 97 | 46 => 95 | 210 => 101 | 127 => 75 | 145 => 119 | 143 => 117 | 21 => 21 | 171 => 87 | 173 => 89 | 212 => 104 | 51 => 105 | 20 => 20 | 213 => 106 | 232 => 121 | 233 => 94 | 80 => 69 | n => n, fun | 15 => 2 | 16 => 3 | 17 => 4 | 18 => 7 | 19 => 0 | n => n⟩
theorem Tryd.laysC172 : Go.Proofs.LaysC.n172 Tryd.prog Tryd.laysC172_ren := {
  mixed := by kernel_rfl
  f129 := Tryd.func80.trans (congrArg some (by kernel_rfl))
  f171 := Tryd.func28.trans (congrArg some (by kernel_rfl))
  f172 := Tryd.func40.trans (congrArg some (by kernel_rfl))
  f205 := Tryd.func78.trans (congrArg some (by kernel_rfl))
  f243 := Tryd.func41.trans (congrArg some (by kernel_rfl))
  f244 := Tryd.func50.trans (congrArg some (by kernel_rfl))
  f245 := Tryd.func51.trans (congrArg some (by kernel_rfl))
  f246 := Tryd.func52.trans (congrArg some (by kernel_rfl))
  f247 := Tryd.func60.trans (congrArg some (by kernel_rfl))
  f279 := Tryd.func61.trans (congrArg some (by kernel_rfl))
  f280 := Tryd.func62.trans (congrArg some (by kernel_rfl))
  f281 := Tryd.func63.trans (congrArg some (by kernel_rfl))
  f282 := Tryd.func64.trans (congrArg some (by kernel_rfl))
  f283 := Tryd.func65.trans (congrArg some (by kernel_rfl))
  f284 := Tryd.func66.trans (congrArg some (by kernel_rfl))
  f285 := Tryd.func67.trans (congrArg some (by kernel_rfl))
  f286 := Tryd.func68.trans (congrArg some (by kernel_rfl))
  f287 := Tryd.func76.trans (congrArg some (by kernel_rfl))
  f316 := Tryd.func77.trans (congrArg some (by kernel_rfl))
  f317 := Tryd.func79.trans (congrArg some (by kernel_rfl))
  f318 := Tryd.func81.trans (congrArg some (by kernel_rfl))
  f319 := Tryd.func82.trans (congrArg some (by kernel_rfl))
  f320 := Tryd.func83.trans (congrArg some (by kernel_rfl))
  f321 := Tryd.func86.trans (congrArg some (by kernel_rfl))
  f322 := Tryd.func87.trans (congrArg some (by kernel_rfl))
  f337 := Tryd.func88.trans (congrArg some (by kernel_rfl))
  f338 := Tryd.func55.trans (congrArg some (by kernel_rfl))
  t0 := Tryd.underlying0
  a0 := Tryd.isAgg0
  z0 := Tryd.sizeOf0
  v0 := Tryd.zeroValue0
  t2 := Tryd.underlying2
  a2 := Tryd.isAgg2
  z2 := Tryd.sizeOf2
  v2 := Tryd.zeroValue2
  t3 := Tryd.underlying3
  a3 := Tryd.isAgg3
  z3 := Tryd.sizeOf3
  v3 := Tryd.zeroValue3
  t4 := Tryd.underlying4
  a4 := Tryd.isAgg4
  z4 := Tryd.sizeOf4
  v4 := Tryd.zeroValue4
  t5 := Tryd.underlying5
  a5 := Tryd.isAgg5
  z5 := Tryd.sizeOf5
  v5 := Tryd.zeroValue5
  t9 := Tryd.underlying9
  a9 := Tryd.isAgg9
  z9 := Tryd.sizeOf9
  v9 := Tryd.zeroValue9
  t20 := Tryd.underlying20
  a20 := Tryd.isAgg20
  z20 := Tryd.sizeOf20
  v20 := Tryd.zeroValue20
  t21 := Tryd.underlying21
  a21 := Tryd.isAgg21
  z21 := Tryd.sizeOf21
  v21 := Tryd.zeroValue21
  t37 := Tryd.underlying65
  a37 := Tryd.isAgg65
  z37 := Tryd.sizeOf65
  v37 := Tryd.zeroValue65
  t46 := Tryd.underlying95
  a46 := Tryd.isAgg95
  z46 := Tryd.sizeOf95
  v46 := Tryd.zeroValue95
  t51 := Tryd.underlying105
  a51 := Tryd.isAgg105
  z51 := Tryd.sizeOf105
  v51 := Tryd.zeroValue105
  t53 := Tryd.underlying48
  a53 := Tryd.isAgg48
  z53 := Tryd.sizeOf48
  v53 := Tryd.zeroValue48
  t75 := Tryd.underlying61
  a75 := Tryd.isAgg61
  z75 := Tryd.sizeOf61
  v75 := Tryd.zeroValue61
  t76 := Tryd.underlying62
  a76 := Tryd.isAgg62
  z76 := Tryd.sizeOf62
  v76 := Tryd.zeroValue62
  t85 := Tryd.underlying82
  a85 := Tryd.isAgg82
  z85 := Tryd.sizeOf82
  v85 := Tryd.zeroValue82
  t127 := Tryd.underlying75
  a127 := Tryd.isAgg75
  z127 := Tryd.sizeOf75
  v127 := Tryd.zeroValue75
  t143 := Tryd.underlying117
  a143 := Tryd.isAgg117
  z143 := Tryd.sizeOf117
  v143 := Tryd.zeroValue117
  t145 := Tryd.underlying119
  a145 := Tryd.isAgg119
  z145 := Tryd.sizeOf119
  v145 := Tryd.zeroValue119
  t167 := Tryd.underlying81
  a167 := Tryd.isAgg81
  z167 := Tryd.sizeOf81
  v167 := Tryd.zeroValue81
  t168 := Tryd.underlying84
  a168 := Tryd.isAgg84
  z168 := Tryd.sizeOf84
  v168 := Tryd.zeroValue84
  t171 := Tryd.underlying87
  a171 := Tryd.isAgg87
  z171 := Tryd.sizeOf87
  v171 := Tryd.zeroValue87
  t173 := Tryd.underlying89
  a173 := Tryd.isAgg89
  z173 := Tryd.sizeOf89
  v173 := Tryd.zeroValue89
  t175 := Tryd.underlying97
  a175 := Tryd.isAgg97
  z175 := Tryd.sizeOf97
  v175 := Tryd.zeroValue97
  t210 := Tryd.underlying101
  a210 := Tryd.isAgg101
  z210 := Tryd.sizeOf101
  v210 := Tryd.zeroValue101
  t212 := Tryd.underlying104
  a212 := Tryd.isAgg104
  z212 := Tryd.sizeOf104
  v212 := Tryd.zeroValue104
  t213 := Tryd.underlying106
  a213 := Tryd.isAgg106
  z213 := Tryd.sizeOf106
  t232 := Tryd.underlying121
  a232 := Tryd.isAgg121
  z232 := Tryd.sizeOf121
  v232 := Tryd.zeroValue121
  t233 := Tryd.underlying94
  a233 := Tryd.isAgg94
  z233 := Tryd.sizeOf94
  v233 := Tryd.zeroValue94
  g15 := by kernel_rfl
  g16 := by kernel_rfl
  g17 := by kernel_rfl
  g18 := by kernel_rfl
  g19 := by kernel_rfl
  t80 := Tryd.underlying69
  a80 := Tryd.isAgg69
  z80 := Tryd.sizeOf69
  v80 := Tryd.zeroValue69
  i0 := by kernel_rfl
  i2 := by kernel_rfl
  i3 := by kernel_rfl
  i4 := by kernel_rfl
  i5 := by kernel_rfl
  i9 := by kernel_rfl
  i20 := by kernel_rfl
  i21 := by kernel_rfl
  i37 := by kernel_rfl
  i46 := by kernel_rfl
  i51 := by kernel_rfl
  i53 := by kernel_rfl
  i75 := by kernel_rfl
  i76 := by kernel_rfl
  i80 := by kernel_rfl
  i85 := by kernel_rfl
  i127 := by kernel_rfl
  i143 := by kernel_rfl
  i145 := by kernel_rfl
  i167 := by kernel_rfl
  i168 := by kernel_rfl
  i171 := by kernel_rfl
  i173 := by kernel_rfl
  i175 := by kernel_rfl
  i210 := by kernel_rfl
  i212 := by kernel_rfl
  i232 := by kernel_rfl
  i233 := by kernel_rfl
  m15 := by kernel_rfl
  m16 := by kernel_rfl
  m17 := by kernel_rfl
  m18 := by kernel_rfl
  m19 := by kernel_rfl
  c0 := by kernel_rfl
  c2 := by kernel_rfl
  c3 := by kernel_rfl
  c4 := by kernel_rfl
  c5 := by kernel_rfl
  c9 := by kernel_rfl
  c20 := by kernel_rfl
  c21 := by kernel_rfl
  c37 := by kernel_rfl
  c46 := by kernel_rfl
  c51 := by kernel_rfl
  c53 := by kernel_rfl
  c75 := by kernel_rfl
  c76 := by kernel_rfl
  c80 := by kernel_rfl
  c85 := by kernel_rfl
  c127 := by kernel_rfl
  c143 := by kernel_rfl
  c145 := by kernel_rfl
  c167 := by kernel_rfl
  c168 := by kernel_rfl
  c171 := by kernel_rfl
  c173 := by kernel_rfl
  c175 := by kernel_rfl
  c210 := by kernel_rfl
  c212 := by kernel_rfl
  c213 := by kernel_rfl
  c232 := by kernel_rfl
  c233 := by kernel_rfl }
open Go.RowKit in
theorem Tryd.strconv_Atoi_ok (s : ByteArray) (hmax : s.size ≤ 9223372036854775806) (v : Int) (h : Lib.atoiAll s.data.toList = .ok v) (w : World) :
    Calls Tryd.prog 40 #[.string s] w fun e w' => e = .returned (.tuple #[.int .i64 v, .nilIface]) ∧ (w' = w ∨ ∃ t, w' = Lib.bytesWorld w 5 t) := Any.strconv_Atoi_ok Tryd.laysC172 s hmax v h w
open Go.RowKit in
theorem Tryd.strconv_Atoi_syntax (s : ByteArray) (hlim : s.size ≤ 281474976710656) (h : Lib.atoiAll s.data.toList = .syntax) (ev : Value) (w : World) (hv : w.cell? ⟨2, 0, none⟩ = some ev) (hev : ev = .nilIface ∨ ∃ te pe, ev = .iface te pe) :
    Calls Tryd.prog 40 #[.string s] w fun e w' => ∃ N, e = .returned (.tuple #[.int .i64 (0), .iface 84 (.pointer (some ⟨N, 0, none⟩))]) ∧ w.heap.size ≤ N ∧ w'.heap[N]? = some (.cells #[.string ⟨#[65, 116, 111, 105]⟩, .string s, ev] 101 (0, 0)) ∧ Below w.heap.size w w' := Any.strconv_Atoi_syntax Tryd.laysC172 s hlim h ev w hv hev
open Go.RowKit in
theorem Tryd.strconv_Atoi_range (s : ByteArray) (hlim : s.size ≤ 281474976710656) (h : Lib.atoiAll s.data.toList = .range) (ev : Value) (w : World) (hv : w.cell? ⟨3, 0, none⟩ = some ev) (hev : ev = .nilIface ∨ ∃ te pe, ev = .iface te pe) :
    Calls Tryd.prog 40 #[.string s] w fun e w' => ∃ N, e = .returned (.tuple #[.int .i64 (Lib.atoiSat s.data.toList), .iface 84 (.pointer (some ⟨N, 0, none⟩))]) ∧ w.heap.size ≤ N ∧ w'.heap[N]? = some (.cells #[.string ⟨#[65, 116, 111, 105]⟩, .string s, ev] 101 (0, 0)) ∧ Below w.heap.size w w' := Any.strconv_Atoi_range Tryd.laysC172 s hlim h ev w hv hev
def Tryd.lays219_ren : Go.Shelf.Ren := ⟨fun | 219 => 59 | 217 => 72 | 225 => 73 | 224 => 74 | 267 => 75 | 266 => 84 | 314 => 85 | n => n, fun | 9 => 9 | 3 => 3 | 4 => 4 | 5 => 5 | 46 => 95 | 146 => 113 | 51 => 105 | n => n, fun | 1 => 1 | n => n⟩
theorem Tryd.lays219 : Go.Proofs.Lays.n219 Tryd.prog Tryd.lays219_ren := {
  mixed := by kernel_rfl
  f217 := Tryd.func72.trans (congrArg some (by kernel_rfl))
  f219 := Tryd.func59.trans (congrArg some (by kernel_rfl))
  f224 := Tryd.func74.trans (congrArg some (by kernel_rfl))
  f225 := Tryd.func73.trans (congrArg some (by kernel_rfl))
  f266 := Tryd.func84.trans (congrArg some (by kernel_rfl))
  f267 := Tryd.func75.trans (congrArg some (by kernel_rfl))
  f314 := Tryd.func85.trans (congrArg some (by kernel_rfl))
  t3 := Tryd.underlying3
  a3 := Tryd.isAgg3
  z3 := Tryd.sizeOf3
  v3 := Tryd.zeroValue3
  t4 := Tryd.underlying4
  a4 := Tryd.isAgg4
  z4 := Tryd.sizeOf4
  v4 := Tryd.zeroValue4
  t5 := Tryd.underlying5
  a5 := Tryd.isAgg5
  z5 := Tryd.sizeOf5
  v5 := Tryd.zeroValue5
  t9 := Tryd.underlying9
  a9 := Tryd.isAgg9
  z9 := Tryd.sizeOf9
  v9 := Tryd.zeroValue9
  t46 := Tryd.underlying95
  a46 := Tryd.isAgg95
  z46 := Tryd.sizeOf95
  v46 := Tryd.zeroValue95
  t51 := Tryd.underlying105
  a51 := Tryd.isAgg105
  z51 := Tryd.sizeOf105
  v51 := Tryd.zeroValue105
  t146 := Tryd.underlying113
  a146 := Tryd.isAgg113
  z146 := Tryd.sizeOf113
  v146 := Tryd.zeroValue113
  g1 := by kernel_rfl }
open Go.RowKit Go.Lib in
theorem Tryd.stringslite_Index_one (s : ByteArray) (c : UInt8) (w : World) :
    Calls Tryd.prog 59 #[.string s, .string ⟨#[c]⟩] w fun e w' => e = .returned (.int .i64 (Lib.indexByte s.data.toList c)) ∧ w' = w := Any.stringslite_Index_one Tryd.lays219 s c w
def Tryd.lays143_ren : Go.Shelf.Ren := ⟨fun | 143 => 48 | 219 => 59 | 217 => 72 | 225 => 73 | 224 => 74 | 267 => 75 | 266 => 84 | 314 => 85 | n => n, fun | 9 => 9 | 3 => 3 | 4 => 4 | 5 => 5 | 46 => 95 | 146 => 113 | 51 => 105 | n => n, fun | 1 => 1 | n => n⟩
theorem Tryd.lays143 : Go.Proofs.Lays.n143 Tryd.prog Tryd.lays143_ren := {
  mixed := by kernel_rfl
  f143 := Tryd.func48.trans (congrArg some (by kernel_rfl))
  f217 := Tryd.func72.trans (congrArg some (by kernel_rfl))
  f219 := Tryd.func59.trans (congrArg some (by kernel_rfl))
  f224 := Tryd.func74.trans (congrArg some (by kernel_rfl))
  f225 := Tryd.func73.trans (congrArg some (by kernel_rfl))
  f266 := Tryd.func84.trans (congrArg some (by kernel_rfl))
  f267 := Tryd.func75.trans (congrArg some (by kernel_rfl))
  f314 := Tryd.func85.trans (congrArg some (by kernel_rfl))
  t3 := Tryd.underlying3
  a3 := Tryd.isAgg3
  z3 := Tryd.sizeOf3
  v3 := Tryd.zeroValue3
  t4 := Tryd.underlying4
  a4 := Tryd.isAgg4
  z4 := Tryd.sizeOf4
  v4 := Tryd.zeroValue4
  t5 := Tryd.underlying5
  a5 := Tryd.isAgg5
  z5 := Tryd.sizeOf5
  v5 := Tryd.zeroValue5
  t9 := Tryd.underlying9
  a9 := Tryd.isAgg9
  z9 := Tryd.sizeOf9
  v9 := Tryd.zeroValue9
  t46 := Tryd.underlying95
  a46 := Tryd.isAgg95
  z46 := Tryd.sizeOf95
  v46 := Tryd.zeroValue95
  t51 := Tryd.underlying105
  a51 := Tryd.isAgg105
  z51 := Tryd.sizeOf105
  v51 := Tryd.zeroValue105
  t146 := Tryd.underlying113
  a146 := Tryd.isAgg113
  z146 := Tryd.sizeOf113
  v146 := Tryd.zeroValue113
  g1 := by kernel_rfl }
open Go.RowKit Go.Lib in
theorem Tryd.strings_Index_one (s : ByteArray) (c : UInt8) (w : World) :
    Calls Tryd.prog 48 #[.string s, .string ⟨#[c]⟩] w fun e w' => e = .returned (.int .i64 (Lib.indexByte s.data.toList c)) ∧ w' = w := Any.strings_Index_one Tryd.lays143 s c w
def Tryd.lays138_ren : Go.Shelf.Ren := ⟨fun | 138 => 47 | 195 => 56 | 218 => 58 | 143 => 48 | 219 => 59 | 217 => 72 | 225 => 73 | 224 => 74 | 267 => 75 | 266 => 84 | 314 => 85 | n => n, fun | 9 => 9 | 3 => 3 | 4 => 4 | 5 => 5 | 0 => 0 | 46 => 95 | 146 => 113 | 51 => 105 | n => n, fun | 1 => 1 | n => n⟩
theorem Tryd.lays138 : Go.Proofs.Lays.n138 Tryd.prog Tryd.lays138_ren := {
  mixed := by kernel_rfl
  f138 := Tryd.func47.trans (congrArg some (by kernel_rfl))
  f143 := Tryd.func48.trans (congrArg some (by kernel_rfl))
  f195 := Tryd.func56.trans (congrArg some (by kernel_rfl))
  f217 := Tryd.func72.trans (congrArg some (by kernel_rfl))
  f218 := Tryd.func58.trans (congrArg some (by kernel_rfl))
  f219 := Tryd.func59.trans (congrArg some (by kernel_rfl))
  f224 := Tryd.func74.trans (congrArg some (by kernel_rfl))
  f225 := Tryd.func73.trans (congrArg some (by kernel_rfl))
  f266 := Tryd.func84.trans (congrArg some (by kernel_rfl))
  f267 := Tryd.func75.trans (congrArg some (by kernel_rfl))
  f314 := Tryd.func85.trans (congrArg some (by kernel_rfl))
  t0 := Tryd.underlying0
  a0 := Tryd.isAgg0
  z0 := Tryd.sizeOf0
  v0 := Tryd.zeroValue0
  t3 := Tryd.underlying3
  a3 := Tryd.isAgg3
  z3 := Tryd.sizeOf3
  v3 := Tryd.zeroValue3
  t4 := Tryd.underlying4
  a4 := Tryd.isAgg4
  z4 := Tryd.sizeOf4
  v4 := Tryd.zeroValue4
  t5 := Tryd.underlying5
  a5 := Tryd.isAgg5
  z5 := Tryd.sizeOf5
  v5 := Tryd.zeroValue5
  t9 := Tryd.underlying9
  a9 := Tryd.isAgg9
  z9 := Tryd.sizeOf9
  v9 := Tryd.zeroValue9
  t46 := Tryd.underlying95
  a46 := Tryd.isAgg95
  z46 := Tryd.sizeOf95
  v46 := Tryd.zeroValue95
  t51 := Tryd.underlying105
  a51 := Tryd.isAgg105
  z51 := Tryd.sizeOf105
  v51 := Tryd.zeroValue105
  t146 := Tryd.underlying113
  a146 := Tryd.isAgg113
  z146 := Tryd.sizeOf113
  v146 := Tryd.zeroValue113
  g1 := by kernel_rfl }
open Go.RowKit Go.Lib in
theorem Tryd.strings_Count_one (s : ByteArray) (c : UInt8) (w : World) :
    Calls Tryd.prog 47 #[.string s, .string ⟨#[c]⟩] w fun e w' => e = .returned (.int .i64 (Lib.countByte s.data.toList c)) ∧ w' = w := Any.strings_Count_one Tryd.lays138 s c w
end Go.Proofs

/-
  VALUES SEEN FROM ABOVE: what a Go value is once memory's places are forgotten ('AV'), how such a value lies in a world ('VR'), and what a step of the call may turn ('Ext').
  A slice that nobody writes any more is the list of its elements ('pl'); one that the call itself made is a name for a row of an abstract memory ('sl'), pointers likewise ('pt').
-/
namespace Go.Av

inductive AV where
  | junk
  | int (k : IntKind) (n : Int)
  | bool (b : Bool)
  | str (s : ByteArray)
  | flt (k : FloatKind) (bits : Nat)
  | nsl
  | pl (xs : List (List AV))
  | sl (id g off len cap : Nat)
  | pt (id g i j : Nat)
  | pp (xs : List (List AV)) (i j : Nat)
  | nptr
  | agg (cs : List AV)
  | tup (vs : List AV)
  | fn (f : Fn) (first caps : List AV)
  | nfn
  | ifc (t : TypeId) (v : AV)
  | nifc
  | raw (u : Value)
  | know (g : Nat) (tab : List Value)
  deriving Inhabited

def AV.leaf : AV → Bool
  | .junk | .agg _ | .tup _ | .raw _ | .know _ _ => false
  | _ => true

/-- Where an abstract row lies: how often it has moved, how wide its elements are, in which block. -/
structure Slot where
  gen : Nat
  sz : Nat
  place : Option Nat

def own (S : List Slot) (b : Nat) : Prop := ∃ (i : Nat) (s : Slot), S[i]? = some s ∧ s.place = some b

def SlOK (w : World) (s : Slot) (off len cap : Nat) (u : Value) : Prop :=
  ∃ c, cap ≤ c ∧ len ≤ c ∧ ((c = 0 ∧ ∃ a, u = .slice a 0 0) ∨
    ∃ (b : Nat) (arr : Array Value) (ty : TypeId), s.place = some b ∧ u = .slice (some ⟨b, off * s.sz, none⟩) len c ∧ w.heap[b]? = some (Obj.cells arr ty (0, 0)) ∧ (off + c) * s.sz ≤ arr.size)

inductive VR (O : Nat → Prop) (w : World) : List Slot → AV → Value → Prop where
  | junk {S : List Slot} {u : Value} : VR O w S .junk u
  | int {S : List Slot} {k : IntKind} {n : Int} : VR O w S (.int k n) (.int k n)
  | bool {S : List Slot} {b : Bool} : VR O w S (.bool b) (.bool b)
  | str {S : List Slot} {s : ByteArray} : VR O w S (.str s) (.string s)
  | flt {S : List Slot} {k : FloatKind} {b : Nat} : VR O w S (.flt k b) (.float k b)
  | nsl {S : List Slot} {a : Option Addr} : VR O w S .nsl (.slice a 0 0)
  | pl {S : List Slot} {xs : List (List AV)} {a : Option Addr} {c : Nat} (base : Addr) (sz : Nat) (u : Nat → Nat → Value)
      (hc : xs.length ≤ c) (hb : xs ≠ [] → a = some base ∧ ¬ O base.block ∧ base.block < w.heap.size)
      (hs : ∀ (i : Nat) (r : List AV), xs[i]? = some r → r.length = sz)
      (hm : ∀ i, i < xs.length → ∀ j, j < sz → w.cell? (base.add (i * sz + j)) = some (u i j))
      (hl : ∀ (i j : Nat) (r : List AV) (v : AV), xs[i]? = some r → r[j]? = some v → v.leaf = true)
      (hv : ∀ (i j : Nat) (r : List AV) (v : AV), xs[i]? = some r → r[j]? = some v → VR O w [] v (u i j)) : VR O w S (.pl xs) (.slice a xs.length c)
  | sl {S : List Slot} {id g off len cap : Nat} {u : Value} (s : Slot) (hs : S[id]? = some s) (hg : g ≤ s.gen) (h1 : u.oneCell' = true) (h : s.gen = g → SlOK w s off len cap u) : VR O w S (.sl id g off len cap) u
  | pt {S : List Slot} {id g i j : Nat} {u : Value} (s : Slot) (hs : S[id]? = some s) (hg : g ≤ s.gen) (h1 : u.oneCell' = true)
      (h : s.gen = g → ∃ b, s.place = some b ∧ u = .pointer (some ⟨b, i * s.sz + j, none⟩)) : VR O w S (.pt id g i j) u
  | pp {S : List Slot} {xs : List (List AV)} {i j : Nat} (base : Addr) (sz : Nat) (u : Nat → Nat → Value)
      (hb : ¬ O base.block ∧ base.block < w.heap.size)
      (hs : ∀ (i : Nat) (r : List AV), xs[i]? = some r → r.length = sz)
      (hm : ∀ i, i < xs.length → ∀ j, j < sz → w.cell? (base.add (i * sz + j)) = some (u i j))
      (hl : ∀ (i j : Nat) (r : List AV) (v : AV), xs[i]? = some r → r[j]? = some v → v.leaf = true)
      (hv : ∀ (i j : Nat) (r : List AV) (v : AV), xs[i]? = some r → r[j]? = some v → VR O w [] v (u i j)) : VR O w S (.pp xs i j) (.pointer (some (base.add (i * sz + j))))
  | nptr {S : List Slot} : VR O w S .nptr (.pointer none)
  | agg {S : List Slot} {cs : List AV} {vs : Array Value} (hn : cs.length = vs.size) (hl : ∀ (j : Nat) (v : AV), cs[j]? = some v → v.leaf = true)
      (h : ∀ (j : Nat) (v : AV) (u : Value), cs[j]? = some v → vs[j]? = some u → VR O w S v u) : VR O w S (.agg cs) (.agg vs)
  | tup {S : List Slot} {cs : List AV} {vs : Array Value} (hn : cs.length = vs.size)
      (h : ∀ (j : Nat) (v : AV) (u : Value), cs[j]? = some v → vs[j]? = some u → VR O w S v u) : VR O w S (.tup cs) (.tuple vs)
  | fn {S : List Slot} {f : Fn} {p q : List AV} {p' q' : Array Value} (hp : p.length = p'.size) (hq : q.length = q'.size)
      (h1 : ∀ (j : Nat) (v : AV) (u : Value), p[j]? = some v → p'[j]? = some u → VR O w S v u) (h2 : ∀ (j : Nat) (v : AV) (u : Value), q[j]? = some v → q'[j]? = some u → VR O w S v u) : VR O w S (.fn f p q) (.func f p' q')
  | nfn {S : List Slot} : VR O w S .nfn .nilFunc
  | ifc {S : List Slot} {t : TypeId} {v : AV} {u : Value} (h : VR O w S v u) : VR O w S (.ifc t v) (.iface t u)
  | nifc {S : List Slot} : VR O w S .nifc .nilIface
  | raw {S : List Slot} {u : Value} : VR O w S (.raw u) u
  | know {S : List Slot} {g : Nat} {tab : List Value} {u : Value} (ho : ¬ O g) (hg : g < w.heap.size) (h : ∀ j v, tab[j]? = some v → w.cell? ⟨g, j, none⟩ = some v) (hx : ∃ ty fz, w.heap[g]? = some (Obj.cells tab.toArray ty fz)) : VR O w S (.know g tab) u

theorem VR.one {O : Nat → Prop} {w : World} {S : List Slot} {v : AV} {u : Value} (h : VR O w S v u) (hl : v.leaf = true) : u.oneCell' = true := by
  cases h with
  | sl s hs hg h1 h => exact h1
  | pt s hs hg h1 h => exact h1
  | _ => first | rfl | (simp [AV.leaf] at hl)

/-- What a step of the call may turn in memory: blocks that are the call's own ('O' before, 'O'' behind), and new ones. -/
structure Stp (O O' : Nat → Prop) (w w' : World) : Prop where
  size : w.heap.size ≤ w'.heap.size
  old : ∀ b, b < w.heap.size → ¬ O b → ¬ O' b ∧ w'.heap[b]? = w.heap[b]?
  cells : ∀ (b : Nat) (arr : Array Value) (ty : TypeId), w.heap[b]? = some (Obj.cells arr ty (0, 0)) → ∃ arr' : Array Value, w'.heap[b]? = some (Obj.cells arr' ty (0, 0)) ∧ arr'.size = arr.size

def SExt (S S' : List Slot) : Prop := ∀ (id : Nat) (s : Slot), S[id]? = some s → ∃ s' : Slot, S'[id]? = some s' ∧ s.gen ≤ s'.gen ∧ (s'.gen = s.gen → s'.sz = s.sz ∧ s'.place = s.place)

theorem SExt.refl (S : List Slot) : SExt S S := fun _ s h => ⟨s, h, Nat.le_refl _, fun _ => ⟨rfl, rfl⟩⟩
theorem SExt.nil (S : List Slot) : SExt [] S := fun _ _ h => by simp at h
theorem SExt.trans {S S' S'' : List Slot} (h : SExt S S') (k : SExt S' S'') : SExt S S'' := fun id s hs => by
  obtain ⟨s', h1, h2, h3⟩ := h id s hs
  obtain ⟨s'', k1, k2, k3⟩ := k id s' h1
  refine ⟨s'', k1, Nat.le_trans h2 k2, fun e => ?_⟩
  have e1 : s'.gen = s.gen := by omega
  have e2 : s''.gen = s'.gen := by omega
  exact ⟨(k3 e2).1.trans (h3 e1).1, (k3 e2).2.trans (h3 e1).2⟩
theorem SExt.snoc (S : List Slot) (s : Slot) : SExt S (S ++ [s]) := fun id x hx => by
  refine ⟨x, ?_, Nat.le_refl _, fun _ => ⟨rfl, rfl⟩⟩
  rw [List.getElem?_append_left (List.getElem?_eq_some_iff.1 hx).1]
  exact hx

theorem Stp.refl (O : Nat → Prop) (w : World) : Stp O O w w := ⟨Nat.le_refl _, fun _ _ h => ⟨h, rfl⟩, fun _ arr _ h => ⟨arr, h, rfl⟩⟩
theorem Stp.trans {O O' O'' : Nat → Prop} {w w' w'' : World} (h : Stp O O' w w') (k : Stp O' O'' w' w'') : Stp O O'' w w'' := by
  refine ⟨Nat.le_trans h.size k.size, fun b hb hO => ?_, fun b arr ty hb => ?_⟩
  · obtain ⟨h1, h2⟩ := h.old b hb hO
    obtain ⟨k1, k2⟩ := k.old b (Nat.lt_of_lt_of_le hb h.size) h1
    exact ⟨k1, k2.trans h2⟩
  · obtain ⟨a1, h1, h2⟩ := h.cells b arr ty hb
    obtain ⟨a2, k1, k2⟩ := k.cells b a1 ty h1
    exact ⟨a2, k1, k2.trans h2⟩
theorem Stp.cell {O O' : Nat → Prop} {w w' : World} (h : Stp O O' w w') {a : Addr} {v : Value} (ha : ¬ O a.block) (hc : w.cell? a = some v) : w'.cell? a = some v :=
  (World.cell?_of_block (h.old a.block (World.block_lt_of_cell? w a hc) ha).2).trans hc

theorem add_block (a : Addr) (n : Nat) : (a.add n).block = a.block := by unfold Addr.add; split <;> rfl

theorem SlOK.mono {w w' : World} {O O' : Nat → Prop} {s s' : Slot} {off len cap : Nat} {u : Value} (h : SlOK w s off len cap u) (hw : Stp O O' w w') (h1 : s'.sz = s.sz) (h2 : s'.place = s.place) : SlOK w' s' off len cap u := by
  obtain ⟨c, hc, hl, h⟩ := h
  refine ⟨c, hc, hl, ?_⟩
  rcases h with h | ⟨b, arr, ty, hp, hu, hb, hsz⟩
  · exact .inl h
  · obtain ⟨arr', hb', hs'⟩ := hw.cells b arr ty hb
    exact .inr ⟨b, arr', ty, h2.trans hp, by rw [h1]; exact hu, hb', by rw [h1, hs']; exact hsz⟩

theorem VR.mono {O : Nat → Prop} {w : World} {S : List Slot} {v : AV} {u : Value} (h : VR O w S v u) : ∀ {O' : Nat → Prop} {w' : World} {S' : List Slot}, Stp O O' w w' → SExt S S' → VR O' w' S' v u := by
  induction h with
  | junk => intros; exact .junk
  | int => intros; exact .int
  | bool => intros; exact .bool
  | str => intros; exact .str
  | flt => intros; exact .flt
  | nsl => intros; exact .nsl
  | nptr => intros; exact .nptr
  | nfn => intros; exact .nfn
  | nifc => intros; exact .nifc
  | raw => intros; exact .raw
  | know ho hg h hx =>
    intro O' w' S' hw _
    exact .know (hw.old _ hg ho).1 (Nat.lt_of_lt_of_le hg hw.size) (fun j v hv => hw.cell ho (h j v hv)) (by rw [(hw.old _ hg ho).2]; exact hx)
  | ifc _ ih => intro O' w' S' hw hS; exact .ifc (ih hw hS)
  | pl base sz u hc hb hs hm hl _ ih =>
    intro O' w' S' hw _
    refine .pl base sz u hc (fun hx => ?_) hs (fun i hi j hj => ?_) hl (fun i j r v hr hv => ih i j r v hr hv hw (SExt.refl _))
    · obtain ⟨h1, h2, h3⟩ := hb hx
      exact ⟨h1, (hw.old _ h3 h2).1, Nat.lt_of_lt_of_le h3 hw.size⟩
    · exact hw.cell (by rw [add_block]; exact (hb (by intro e; simp [e] at hi)).2.1) (hm i hi j hj)
  | pp base sz u hb hs hm hl _ ih =>
    intro O' w' S' hw _
    exact .pp base sz u ⟨(hw.old _ hb.2 hb.1).1, Nat.lt_of_lt_of_le hb.2 hw.size⟩ hs (fun i hi j hj => hw.cell (by rw [add_block]; exact hb.1) (hm i hi j hj)) hl (fun i j r v hr hv => ih i j r v hr hv hw (SExt.refl _))
  | sl s hs hg h1 h =>
    intro O' w' S' hw hS
    obtain ⟨s', hs', hg', he⟩ := hS _ _ hs
    refine .sl s' hs' (Nat.le_trans hg hg') h1 fun e => ?_
    have e1 : s'.gen = s.gen := by omega
    exact (h (by omega)).mono hw (he e1).1 (he e1).2
  | pt s hs hg h1 h =>
    intro O' w' S' hw hS
    obtain ⟨s', hs', hg', he⟩ := hS _ _ hs
    refine .pt s' hs' (Nat.le_trans hg hg') h1 fun e => ?_
    have e1 : s'.gen = s.gen := by omega
    obtain ⟨b, hb, hu⟩ := h (by omega)
    exact ⟨b, (he e1).2.trans hb, by rw [(he e1).1]; exact hu⟩
  | agg hn hl _ ih => intro O' w' S' hw hS; exact .agg hn hl fun j v u hv hu => ih j v u hv hu hw hS
  | tup hn _ ih => intro O' w' S' hw hS; exact .tup hn fun j v u hv hu => ih j v u hv hu hw hS
  | fn hp hq _ _ ih1 ih2 => intro O' w' S' hw hS; exact .fn hp hq (fun j v u hv hu => ih1 j v u hv hu hw hS) (fun j v u hv hu => ih2 j v u hv hu hw hS)

/-! ### The abstract memory -/
structure AObj where
  gen : Nat
  sz : Nat
  rows : List (List AV)
  deriving Inhabited

abbrev Heap := List AObj

structure ObjOK (S : List Slot) (w : World) (o : AObj) (s : Slot) : Prop where
  gen : o.gen = s.gen
  sz : o.sz = s.sz
  pos : 0 < o.sz
  nope : s.place = none → o.rows = []
  lies : ∀ b, s.place = some b → ∃ (arr : Array Value) (ty : TypeId), w.heap[b]? = some (Obj.cells arr ty (0, 0)) ∧ o.rows.length * o.sz ≤ arr.size ∧
    ∀ (i : Nat) (r : List AV), o.rows[i]? = some r → r.length = o.sz ∧ ∀ (j : Nat) (v : AV), r[j]? = some v → v.leaf = true ∧ ∃ u, arr[i * o.sz + j]? = some u ∧ VR (own S) w S v u

structure HRel (H : Heap) (S : List Slot) (w : World) : Prop where
  len : H.length = S.length
  obj : ∀ (id : Nat) (o : AObj) (s : Slot), H[id]? = some o → S[id]? = some s → ObjOK S w o s
  inj : ∀ (i j : Nat) (si sj : Slot) (b : Nat), S[i]? = some si → S[j]? = some sj → si.place = some b → sj.place = some b → i = j

structure Ext (S : List Slot) (w : World) (S' : List Slot) (w' : World) : Prop where
  os : w'.os = w.os
  tape : w'.tape = w.tape
  output : w'.output = w.output
  stp : Stp (own S) (own S') w w'
  slots : SExt S S'

theorem Ext.refl (S : List Slot) (w : World) : Ext S w S w := ⟨rfl, rfl, rfl, Stp.refl _ _, SExt.refl _⟩
theorem Ext.trans {S S' S'' : List Slot} {w w' w'' : World} (h : Ext S w S' w') (k : Ext S' w' S'' w'') : Ext S w S'' w'' :=
  ⟨k.os.trans h.os, k.tape.trans h.tape, k.output.trans h.output, h.stp.trans k.stp, h.slots.trans k.slots⟩
theorem VR.ext {S S' : List Slot} {w w' : World} {v : AV} {u : Value} (h : VR (own S) w S v u) (k : Ext S w S' w') : VR (own S') w' S' v u := h.mono k.stp k.slots

theorem own_lt {H : Heap} {S : List Slot} {w : World} (h : HRel H S w) {b : Nat} (hb : own S b) : b < w.heap.size := by
  obtain ⟨i, s, hs, hp⟩ := hb
  have hi : i < H.length := by rw [h.len]; exact (List.getElem?_eq_some_iff.1 hs).1
  obtain ⟨arr, ty, ha, _⟩ := (h.obj i _ s (List.getElem?_eq_getElem hi) hs).lies b hp
  exact (Array.getElem?_eq_some_iff.1 ha).1

/-! ### Environments -/
abbrev Env := List (Nat × AV)
def get : Env → Nat → AV
  | [], _ => .junk
  | (d, v) :: e, t => match Nat.beq d t with
    | true => v
    | false => get e t
def put (e : Env) : Option Nat → AV → Env
  | some d, v => (d, v) :: e
  | none, _ => e

structure CR (N : Nat) (e : Env) (H : Heap) (S : List Slot) (a : Act) (w : World) : Prop where
  heap : HRel H S w
  env : ∀ t, VR (own S) w S (get e t) (a.tmps.getD t undef)
  size : a.tmps.size = N
  defers : a.defers = []

theorem get_put_same (e : Env) (d : Nat) (v : AV) : get ((d, v) :: e) d = v := by simp [get]
theorem get_put_other (e : Env) {d t : Nat} (v : AV) (h : d ≠ t) : get ((d, v) :: e) t = get e t := by
  have : Nat.beq d t = false := by
    cases hb : Nat.beq d t with
    | false => rfl
    | true => exact absurd (Nat.eq_of_beq_eq_true hb) h
  simp [get, this]

theorem CR.put {N : Nat} {e : Env} {H H' : Heap} {S S' : List Slot} {a : Act} {w w' : World} (h : CR N e H S a w) (x : Ext S w S' w') (hh : HRel H' S' w') {d : Option Nat} {v : AV} {u : Value}
    (hd : ∀ t, d = some t → t < N) (hv : VR (own S') w' S' v u) : CR N (Av.put e d v) H' S' (a.put d u) w' := by
  have hs := h.size
  cases d with
  | none => exact ⟨hh, fun t => (h.env t).ext x, hs, h.defers⟩
  | some d =>
    have hd := hd d rfl
    refine ⟨hh, fun t => ?_, by simpa [Act.put] using hs, h.defers⟩
    by_cases e : d = t
    · subst e
      have h1 : (a.put (some d) u).tmps.getD d undef = u := by simp [Act.put, hs, hd]
      rw [h1]
      show VR _ _ _ (get ((d, v) :: _) d) u
      rw [get_put_same]; exact hv
    · have h1 : (a.put (some d) u).tmps.getD t undef = a.tmps.getD t undef := by simp [Act.put, Array.getElem?_setIfInBounds_ne e]
      rw [h1]
      show VR _ _ _ (get ((d, v) :: _) t) _
      rw [get_put_other _ _ e]; exact (h.env t).ext x
theorem CR.step {N : Nat} {e : Env} {H H' : Heap} {S S' : List Slot} {a : Act} {w w' : World} (h : CR N e H S a w) (x : Ext S w S' w') (hh : HRel H' S' w') : CR N e H' S' a w' :=
  ⟨hh, fun t => (h.env t).ext x, h.size, h.defers⟩

end Go.Av

/-
  WALKING CODE OVER THE ABSTRACT MEMORY: what 'AWp' (of code), 'AOps' (of a region's operations), 'AOp' (of one operation) and 'AC' (of a call) say, and the rules of control.
-/
namespace Go.Av

/-- How a piece of code is left. -/
inductive AX where
  | nrm
  | brk (id : Nat)
  | ret
  | pan (v : AV)

inductive XR (O : Nat → Prop) (w : World) (S : List Slot) : AX → Exit → Prop where
  | nrm : XR O w S .nrm .normal
  | brk {i : Nat} : XR O w S (.brk i) (.exit i)
  | ret : XR O w S .ret .ret
  | pan {v : AV} {u : Value} (h : VR O w S v u) : XR O w S (.pan v) (.panic [{ v := u, recovered := false }])

theorem XR.ext {S S' : List Slot} {w w' : World} {x : AX} {e : Exit} (h : XR (own S) w S x e) (k : Ext S w S' w') : XR (own S') w' S' x e := by
  cases h with
  | nrm => exact .nrm
  | brk => exact .brk
  | ret => exact .ret
  | pan h => exact .pan (h.ext k)

abbrev Post := AX → Env → Heap → Prop

/-- Where the call began. -/
structure Base where
  S : List Slot
  w : World

def Lift (N : Nat) (Q : Post) (B : Base) : Exit → Act → World → Prop := fun e a' w' =>
  ∃ x env' H' S', Q x env' H' ∧ XR (own S') w' S' x e ∧ CR N env' H' S' a' w' ∧ Ext B.S B.w S' w'

theorem Lift.mono {N : Nat} {Q Q' : Post} {B : Base} {e : Exit} {a' : Act} {w' : World} (h : Lift N Q B e a' w') (hq : ∀ x env H, Q x env H → Q' x env H) : Lift N Q' B e a' w' :=
  let ⟨x, env', H', S', q, r⟩ := h
  ⟨x, env', H', S', hq _ _ _ q, r⟩

def AWp (P : Program) (N : Nat) (B : Base) (c : Code) (Q : Post) (env : Env) (H : Heap) : Prop :=
  ∀ S a w, CR N env H S a w → Ext B.S B.w S w → c.wp P (Lift N Q B) a w

def AOps (P : Program) (N : Nat) (B : Base) (ops : Array Oper) (l : List Oper) (Q : Post) (env : Env) (H : Heap) : Prop :=
  ∀ S a w, CR N env H S a w → Ext B.S B.w S w → wpList P ops (Lift N Q B) l a w

/-- One operation: it yields a value (K) or panics with one (X). -/
def AOp (P : Program) (N : Nat) (o : Oper) (env : Env) (H : Heap) (K X : AV → Heap → Prop) : Prop :=
  ∀ S a w, CR N env H S a w → ∀ (next : Act → World → Prop) (Q : Exit → Act → World → Prop),
    (∀ v u H' S' w', K v H' → HRel H' S' w' → Ext S w S' w' → VR (own S') w' S' v u → next (a.put o.dst u) w') →
    (∀ v u H' S' w', X v H' → HRel H' S' w' → Ext S w S' w' → VR (own S') w' S' v u → Q (.panic [{ v := u, recovered := false }]) a w') →
    o.wp P a w next Q

/-- What a call comes to. -/
inductive AOut where
  | ret (v : AV)
  | pan (v : AV)

inductive OutR (O : Nat → Prop) (w : World) (S : List Slot) : AOut → Ending → Prop where
  | ret {v : AV} {u : Value} (h : VR O w S v u) : OutR O w S (.ret v) (.returned u)
  | pan {v : AV} {u : Value} (h : VR O w S v u) : OutR O w S (.pan v) (.panicked [{ v := u, recovered := false }])

def VRs (O : Nat → Prop) (w : World) (S : List Slot) (vs : List AV) (us : Array Value) : Prop :=
  vs.length = us.size ∧ ∀ (i : Nat) (v : AV) (u : Value), vs[i]? = some v → us[i]? = some u → VR O w S v u

def AC (P : Program) (f : FuncId) (args : List AV) (H : Heap) (R : AOut → Heap → Prop) : Prop :=
  ∀ S w cargs, HRel H S w → VRs (own S) w S args cargs →
    Calls P f cargs w fun e w' => ∃ o H' S', R o H' ∧ OutR (own S') w' S' o e ∧ HRel H' S' w' ∧ Ext S w S' w'

theorem AC.mono {P : Program} {f : FuncId} {args : List AV} {H : Heap} {R R' : AOut → Heap → Prop} (h : AC P f args H R) (hr : ∀ o H', R o H' → R' o H') : AC P f args H R' :=
  fun S w cargs hH hv => (h S w cargs hH hv).mono fun _ _ ⟨o, H', S', q, r⟩ => ⟨o, H', S', hr _ _ q, r⟩

theorem VRs.ext {S S' : List Slot} {w w' : World} {vs : List AV} {us : Array Value} (h : VRs (own S) w S vs us) (k : Ext S w S' w') : VRs (own S') w' S' vs us :=
  ⟨h.1, fun i v u hv hu => (h.2 i v u hv hu).ext k⟩

section
variable {P : Program} {N : Nat} {B : Base} {Q : Post} {env : Env} {H : Heap}

theorem AWp.mono {c : Code} {Q' : Post} (h : AWp P N B c Q env H) (hq : ∀ x e H, Q x e H → Q' x e H) : AWp P N B c Q' env H :=
  fun S a w hc hb => wp_mono (h S a w hc hb) fun _ _ _ q => q.mono hq

/-- What follows in a sequence. -/
def AX.andThen (K : Env → Heap → Prop) (Q : Post) : Post
  | .nrm, e, H => K e H
  | x, e, H => Q x e H

theorem aw_seq {x y : Code} (h : AWp P N B x (AX.andThen (fun e H => AWp P N B y Q e H) Q) env H) : AWp P N B (.seq x y) Q env H := by
  intro S a w hc hb
  refine wp_seq (wp_mono (h S a w hc hb) ?_)
  intro e a' w' ⟨x, env', H', S', q, r, c, k⟩
  cases r with
  | nrm => exact q S' a' w' c k
  | brk => exact ⟨_, env', H', S', q, .brk, c, k⟩
  | ret => exact ⟨_, env', H', S', q, .ret, c, k⟩
  | pan hv => exact ⟨_, env', H', S', q, .pan hv, c, k⟩

theorem aw_skip (h : Q .nrm env H) : AWp P N B .skip Q env H := fun S _ _ hc hb => wp_skip ⟨.nrm, env, H, S, h, .nrm, hc, hb⟩
theorem aw_exit {id : Nat} (h : Q (.brk id) env H) : AWp P N B (.exit id) Q env H := fun S _ _ hc hb => wp_exit ⟨.brk id, env, H, S, h, .brk, hc, hb⟩
theorem aw_ret (h : Q .ret env H) : AWp P N B .ret Q env H := fun S _ _ hc hb => wp_ret ⟨.ret, env, H, S, h, .ret, hc, hb⟩

/-- What a block catches. -/
def AX.inBlock (id : Nat) (Q : Post) : Post
  | .brk i, e, H => if i = id then Q .nrm e H else Q (.brk i) e H
  | x, e, H => Q x e H

theorem aw_block {id : Nat} {c : Code} (h : AWp P N B c (AX.inBlock id Q) env H) : AWp P N B (.block id c) Q env H := by
  intro S a w hc hb
  refine wp_block (wp_mono (h S a w hc hb) ?_)
  intro e a' w' ⟨x, env', H', S', q, r, c, k⟩
  cases r with
  | nrm => exact ⟨_, env', H', S', q, .nrm, c, k⟩
  | @brk i =>
    simp only [AX.inBlock] at q
    simp only [Exit.inBlock]
    split at q
    · rename_i e; rw [if_pos e]; exact ⟨_, env', H', S', q, .nrm, c, k⟩
    · rename_i e; rw [if_neg e]; exact ⟨_, env', H', S', q, .brk, c, k⟩
  | ret => exact ⟨_, env', H', S', q, .ret, c, k⟩
  | pan hv => exact ⟨_, env', H', S', q, .pan hv, c, k⟩

/-! ### Constants and operands -/
def ofLeaf : Value → AV
  | .bool b => .bool b
  | .int k n => .int k n
  | .float k b => .flt k b
  | .string s => .str s
  | .pointer none => .nptr
  | .slice _ 0 0 => .nsl
  | .nilFunc => .nfn
  | .nilIface => .nifc
  | _ => .junk
def ofVal : Value → AV
  | .agg cs => if (cs.toList.map ofLeaf).all AV.leaf then .agg (cs.toList.map ofLeaf) else .junk
  | v => ofLeaf v

theorem ofLeaf_ok (O : Nat → Prop) (w : World) (S : List Slot) (v : Value) : VR O w S (ofLeaf v) v := by
  unfold ofLeaf
  split <;> constructor
theorem ofVal_ok (O : Nat → Prop) (w : World) (S : List Slot) (v : Value) : VR O w S (ofVal v) v := by
  unfold ofVal
  split
  · rename_i cs
    split
    · rename_i h
      refine .agg (by simp) (fun j v hv => ?_) (fun j v u hv hu => ?_)
      · exact List.all_eq_true.1 h v (List.mem_of_getElem? hv)
      · have h1 : cs.toList[j]? = some u := by simpa using hu
        rw [List.getElem?_map, h1] at hv
        obtain rfl := Option.some.inj hv
        exact ofLeaf_ok O w S u
    · exact .junk
  · exact ofLeaf_ok O w S v

def aev (env : Env) : Operand → AV
  | .tmp t => get env t
  | .const v => ofVal v
  | .global g => .raw (.pointer (some ⟨g, 0, none⟩))
  | .func f => .fn (.func f) [] []

theorem CR.ev {S : List Slot} {a : Act} {w : World} (h : CR N env H S a w) (x : Operand) : VR (own S) w S (aev env x) (a.eval x) := by
  cases x with
  | tmp t => exact h.env t
  | const v => exact ofVal_ok _ _ _ v
  | global g => exact .raw
  | func f => exact .fn rfl rfl (fun _ _ _ h => by simp at h) (fun _ _ _ h => by simp at h)

theorem aw_cond {c : Operand} {x y : Code} {b : Bool} (hc : aev env c = .bool b) (h1 : b = true → AWp P N B x Q env H) (h2 : b = false → AWp P N B y Q env H) : AWp P N B (.cond c x y) Q env H := by
  intro S a w h hb
  have hv := h.ev c
  rw [hc] at hv
  generalize hu : a.eval c = u at hv
  cases hv
  exact wp_cond_split hu (fun e => h1 e S a w h hb) (fun e => h2 e S a w h hb)

/-- To know less of the environment. -/
def Sub (E env : Env) : Prop := ∀ t, get E t = .junk ∨ get env t = get E t
theorem Sub.nil : Sub [] env := fun _ => .inl rfl
theorem Sub.cons {d : Nat} {v : AV} {E : Env} (h : get env d = v) (k : Sub E env) : Sub ((d, v) :: E) env := fun t => by
  by_cases e : d = t
  · subst e; rw [get_put_same]; exact .inr h
  · rw [get_put_other _ _ e]; exact k t
theorem Sub.refl (env : Env) : Sub env env := fun _ => .inr rfl
theorem CR.sub {S : List Slot} {a : Act} {w : World} {E : Env} (h : CR N env H S a w) (k : Sub E env) : CR N E H S a w :=
  ⟨h.heap, fun t => by rcases k t with e | e
                       · rw [e]; exact .junk
                       · rw [← e]; exact h.env t, h.size, h.defers⟩
theorem aw_sub {c : Code} {E : Env} (k : Sub E env) (h : AWp P N B c Q E H) : AWp P N B c Q env H := fun S a w hc hb => h S a w (hc.sub k) hb

/-! ### What may be forgotten of the memory -/
mutual
/-- It names no row from n on. -/
def AV.bel (n : Nat) : AV → Bool
  | .sl id _ _ _ _ | .pt id _ _ _ => decide (id < n)
  | .agg cs | .tup cs => AV.bels n cs
  | .fn _ p q => AV.bels n p && AV.bels n q
  | .ifc _ v => AV.bel n v
  | _ => true
def AV.bels (n : Nat) : List AV → Bool
  | [] => true
  | v :: vs => AV.bel n v && AV.bels n vs
end
theorem AV.bels_iff (n : Nat) : ∀ vs : List AV, AV.bels n vs = true ↔ ∀ v ∈ vs, AV.bel n v = true
  | [] => by simp [AV.bels]
  | v :: vs => by simp [AV.bels, AV.bels_iff n vs]
theorem AV.bels_get {n : Nat} {vs : List AV} (h : AV.bels n vs = true) {j : Nat} {v : AV} (hj : vs[j]? = some v) : AV.bel n v = true := (AV.bels_iff n vs).1 h v (List.mem_of_getElem? hj)

theorem VR.bel {O : Nat → Prop} {w : World} {S : List Slot} {v : AV} {u : Value} (h : VR O w S v u) : v.bel S.length = true := by
  induction h with
  | sl s hs _ _ _ => simpa [AV.bel] using (List.getElem?_eq_some_iff.1 hs).1
  | pt s hs _ _ _ => simpa [AV.bel] using (List.getElem?_eq_some_iff.1 hs).1
  | agg hn _ _ ih =>
    simp only [AV.bel, AV.bels_iff]
    intro v hv
    obtain ⟨j, hj⟩ := List.mem_iff_getElem?.1 hv
    exact ih j v _ hj (Array.getElem?_eq_getElem (by rw [← hn]; exact (List.getElem?_eq_some_iff.1 hj).1))
  | tup hn _ ih =>
    simp only [AV.bel, AV.bels_iff]
    intro v hv
    obtain ⟨j, hj⟩ := List.mem_iff_getElem?.1 hv
    exact ih j v _ hj (Array.getElem?_eq_getElem (by rw [← hn]; exact (List.getElem?_eq_some_iff.1 hj).1))
  | fn hp hq _ _ ih1 ih2 =>
    simp only [AV.bel, AV.bels_iff, Bool.and_eq_true]
    refine ⟨fun v hv => ?_, fun v hv => ?_⟩
    · obtain ⟨j, hj⟩ := List.mem_iff_getElem?.1 hv
      exact ih1 j v _ hj (Array.getElem?_eq_getElem (by rw [← hp]; exact (List.getElem?_eq_some_iff.1 hj).1))
    · obtain ⟨j, hj⟩ := List.mem_iff_getElem?.1 hv
      exact ih2 j v _ hj (Array.getElem?_eq_getElem (by rw [← hq]; exact (List.getElem?_eq_some_iff.1 hj).1))
  | ifc _ ih => exact ih
  | _ => rfl

theorem own_take {S : List Slot} {n b : Nat} (h : own (S.take n) b) : own S b := by
  obtain ⟨i, s, hs, hp⟩ := h
  rw [List.getElem?_take] at hs
  split at hs
  · exact ⟨i, s, hs, hp⟩
  · cases hs

theorem VR.take {O : Nat → Prop} {w : World} {S : List Slot} {v : AV} {u : Value} (h : VR O w S v u) {O' : Nat → Prop} (hO : ∀ b, ¬ O b → ¬ O' b) {n : Nat} : v.bel n = true → VR O' w (S.take n) v u := by
  have hw : Stp O O' w w := ⟨Nat.le_refl _, fun b _ h => ⟨hO b h, rfl⟩, fun _ arr _ h => ⟨arr, h, rfl⟩⟩
  induction h with
  | sl s hs hg h1 h =>
    intro hb
    simp [AV.bel] at hb
    exact .sl s (by rw [List.getElem?_take, if_pos hb]; exact hs) hg h1 h
  | pt s hs hg h1 h =>
    intro hb
    simp [AV.bel] at hb
    exact .pt s (by rw [List.getElem?_take, if_pos hb]; exact hs) hg h1 h
  | agg hn hl _ ih => intro hb; exact .agg hn hl fun j v u hv hu => ih j v u hv hu (AV.bels_get hb hv)
  | tup hn _ ih => intro hb; exact .tup hn fun j v u hv hu => ih j v u hv hu (AV.bels_get hb hv)
  | fn hp hq _ _ ih1 ih2 =>
    intro hb
    simp only [AV.bel, Bool.and_eq_true] at hb
    exact .fn hp hq (fun j v u hv hu => ih1 j v u hv hu (AV.bels_get hb.1 hv)) (fun j v u hv hu => ih2 j v u hv hu (AV.bels_get hb.2 hv))
  | ifc _ ih => intro hb; exact .ifc (ih hb)
  | pl base sz u hc hb hs hm hl hv _ => intro _; exact .pl base sz u hc (fun hx => ⟨(hb hx).1, hO _ (hb hx).2.1, (hb hx).2.2⟩) hs hm hl (fun i j r v hr hv' => (hv i j r v hr hv').mono hw (SExt.refl _))
  | pp base sz u hb hs hm hl hv _ => intro _; exact .pp base sz u ⟨hO _ hb.1, hb.2⟩ hs hm hl (fun i j r v hr hv' => (hv i j r v hr hv').mono hw (SExt.refl _))
  | junk => intro _; exact .junk
  | int => intro _; exact .int
  | bool => intro _; exact .bool
  | str => intro _; exact .str
  | flt => intro _; exact .flt
  | nsl => intro _; exact .nsl
  | nptr => intro _; exact .nptr
  | nfn => intro _; exact .nfn
  | nifc => intro _; exact .nifc
  | raw => intro _; exact .raw
  | know ho hg h hx => intro _; exact .know (hO _ ho) hg h hx

/-- No row of M names a row from n on. -/
def HBel (n : Nat) (M : Heap) : Prop := ∀ o ∈ M, ∀ r ∈ o.rows, AV.bels n r = true
def EBel (n : Nat) (E : Env) : Prop := ∀ t, (get E t).bel n = true
theorem EBel.nil {n : Nat} : EBel n [] := fun _ => rfl
theorem EBel.cons {n d : Nat} {v : AV} {E : Env} (h : v.bel n = true) (k : EBel n E) : EBel n ((d, v) :: E) := fun t => by
  by_cases e : d = t
  · subst e; rw [get_put_same]; exact h
  · rw [get_put_other _ _ e]; exact k t

theorem HRel.bel {S : List Slot} {w : World} (h : HRel H S w) : HBel H.length H := by
  intro o ho r hr
  obtain ⟨id, hid⟩ := List.mem_iff_getElem?.1 ho
  obtain ⟨i, hi⟩ := List.mem_iff_getElem?.1 hr
  have hlt : id < S.length := by rw [← h.len]; exact (List.getElem?_eq_some_iff.1 hid).1
  have ok := h.obj id o _ hid (List.getElem?_eq_getElem hlt)
  rw [AV.bels_iff]
  intro v hv
  obtain ⟨j, hj⟩ := List.mem_iff_getElem?.1 hv
  cases hp : S[id].place with
  | none => rw [ok.nope hp] at hi; simp at hi
  | some b =>
    obtain ⟨arr, ty, _, _, h3⟩ := ok.lies b hp
    obtain ⟨_, u, _, hvr⟩ := (h3 i r hi).2 j v hj
    rw [h.len]
    exact hvr.bel

theorem HRel.take {S : List Slot} {w : World} {n : Nat} (h : HRel H S w) (hb : HBel n (H.take n)) : HRel (H.take n) (S.take n) w := by
  refine ⟨by simp [h.len], fun id o s ho hs => ?_, fun i j si sj b hi hj => ?_⟩
  · rw [List.getElem?_take] at ho hs
    split at ho
    · rename_i hlt
      rw [if_pos hlt] at hs
      have ok := h.obj id o s ho hs
      refine ⟨ok.gen, ok.sz, ok.pos, ok.nope, fun b hp => ?_⟩
      obtain ⟨arr, ty, h1, h2, h3⟩ := ok.lies b hp
      refine ⟨arr, ty, h1, h2, fun i r hr => ⟨(h3 i r hr).1, fun j v hv => ?_⟩⟩
      obtain ⟨hl, u, hu, hvr⟩ := (h3 i r hr).2 j v hv
      have hbel : v.bel n = true := AV.bels_get (hb o (List.mem_of_getElem? (by rw [List.getElem?_take, if_pos hlt]; exact ho)) r (List.mem_of_getElem? hr)) hv
      exact ⟨hl, u, hu, hvr.take (fun b h k => h (own_take k)) hbel⟩
    · cases ho
  · rw [List.getElem?_take] at hi hj
    split at hi
    · split at hj
      · exact h.inj i j si sj b hi hj
      · cases hj
    · cases hi

theorem Ext.take {S S' : List Slot} {w w' : World} {n : Nat} (h : Ext S w S' w') (hn : S.length ≤ n) : Ext S w (S'.take n) w' :=
  ⟨h.os, h.tape, h.output, ⟨h.stp.size, fun b hb ho => ⟨fun k => (h.stp.old b hb ho).1 (own_take k), (h.stp.old b hb ho).2⟩, h.stp.cells⟩, fun id s hs => by
    obtain ⟨s', h1, h2⟩ := h.slots id s hs
    have hlt : id < n := Nat.lt_of_lt_of_le (List.getElem?_eq_some_iff.1 hs).1 hn
    exact ⟨s', by rw [List.getElem?_take, if_pos hlt]; exact h1, h2⟩⟩

/-- The memory H' may be taken for M, in the environment E. -/
def Fit (B : Base) (E : Env) (H' M : Heap) : Prop := H' = M ∨ ∃ G, H' = M ++ G ∧ B.S.length ≤ M.length ∧ EBel M.length E ∧ HBel M.length M

theorem Fit.refl (E : Env) (M : Heap) : Fit B E M M := .inl rfl
theorem CR.fit {S : List Slot} {a : Act} {w : World} {M : Heap} (h : CR N env H S a w) (k : Ext B.S B.w S w) (hf : Fit B env H M) : ∃ S', CR N env M S' a w ∧ Ext B.S B.w S' w := by
  rcases hf with rfl | ⟨G, rfl, hn, he, hm⟩
  · exact ⟨S, h, k⟩
  · have ht : (M ++ G).take M.length = M := by simp
    refine ⟨S.take M.length, ⟨?_, fun t => (h.env t).take (fun b h k => h (own_take k)) (he t), h.size, h.defers⟩, k.take hn⟩
    have := h.heap.take (n := M.length) (by rw [ht]; exact hm)
    rwa [ht] at this
theorem aw_fit {c : Code} {M : Heap} (hf : Fit B env H M) (h : AWp P N B c Q env M) : AWp P N B c Q env H := fun _ a w hc hb =>
  let ⟨S', hc', hb'⟩ := hc.fit hb hf
  h S' a w hc' hb'

/-- A loop: a family of environments and memories, each with what holds of it and a number that every round lowers. -/
theorem aw_loop {c : Code} {G : Type} (I : G → Prop) (E : G → Env) (M : G → Heap) (μ : G → Nat) (g0 : G) (h0 : I g0) (he : Sub (E g0) env) (hH : Fit B (E g0) H (M g0))
    (round : ∀ g, I g → AWp P N B c (AX.andThen (fun e H' => ∃ g', μ g' < μ g ∧ I g' ∧ Sub (E g') e ∧ Fit B (E g') H' (M g')) Q) (E g) (M g)) : AWp P N B (.loop c) Q env H := by
  intro S a w hc hb
  obtain ⟨S0, hc0, hb0⟩ := (hc.sub he).fit hb hH
  refine wp_loop_ghost (fun n a' w' => ∃ g S', μ g = n ∧ I g ∧ CR N (E g) (M g) S' a' w' ∧ Ext B.S B.w S' w') (μ g0) ⟨g0, S0, rfl, h0, hc0, hb0⟩ ?_
  rintro n a1 w1 ⟨g, S1, rfl, hI, hc1, k1⟩
  refine wp_mono (round g hI S1 a1 w1 hc1 k1) ?_
  intro e a' w' ⟨x, env', H', S', q, r, c, k⟩
  cases r with
  | nrm =>
    obtain ⟨g', hm, hI', hs, hf⟩ := q
    obtain ⟨S2, hc2, k2⟩ := (c.sub hs).fit k hf
    exact ⟨μ g', hm, g', S2, rfl, hI', hc2, k2⟩
  | brk => exact ⟨_, env', H', S', q, .brk, c, k⟩
  | ret => exact ⟨_, env', H', S', q, .ret, c, k⟩
  | pan hv => exact ⟨_, env', H', S', q, .pan hv, c, k⟩

/-! ### Regions -/
theorem aw_region {id : Nat} {l : List Oper} (h : AOps P N B l.toArray l Q env H) : AWp P N B (.region id l.toArray false) Q env H :=
  fun S a w hc hb => wp_region_lit (h S a w hc hb)

variable {ops : Array Oper} {rest : List Oper}
theorem ao_nil (h : Q .nrm env H) : AOps P N B ops [] Q env H := fun S _ _ hc hb => wpList_nil ⟨.nrm, env, H, S, h, .nrm, hc, hb⟩

/-- One operation after another. -/
theorem ao_cons {o : Oper} (hg : o.guard = none) (hd : ∀ t, o.dst = some t → t < N) {K X : AV → Heap → Prop} (h : AOp P N o env H K X)
    (hK : ∀ v H', K v H' → AOps P N B ops rest Q (put env o.dst v) H') (hX : ∀ v H', X v H' → Q (.pan v) env H') : AOps P N B ops (o :: rest) Q env H := by
  intro S a w hc hb
  refine wpList_plain hg fun next hnext => ?_
  refine h S a w hc next _ ?_ ?_
  · intro v u H' S' w' hk hh hx hv
    exact hnext _ _ (hK v H' hk S' _ w' (hc.put hx hh hd hv) (hb.trans hx))
  · intro v u H' S' w' hk hh hx hv
    exact ⟨.pan v, env, H', S', hX v H' hk, .pan hv, hc.step hx hh, hb.trans hx⟩

theorem yielded_of {S : List Slot} {a : Act} {w : World} (hc : CR N env H S a w) {j d : Nat} {b : Bool} (hj : (ops[j]?).bind (·.dst) = some d) (hb : get env d = .bool b) : yielded ops a.tmps j = some b := by
  have hv := hc.env d
  rw [hb] at hv
  unfold yielded
  rw [hj]
  have : a.tmps.getD d undef = .bool b := by cases hq : a.tmps.getD d undef <;> rw [hq] at hv <;> cases hv; rfl
  cases hq : a.tmps[d]? with
  | none => simp [hq, undef] at this
  | some u =>
    have : u = .bool b := by simpa [hq] using this
    subst this
    simp [hq]

theorem not_yielded {S : List Slot} {a : Act} {w : World} (hc : CR N env H S a w) {j d : Nat} (hj : (ops[j]?).bind (·.dst) = some d) (hb : get env d = .tup []) : yielded ops a.tmps j = none := by
  have hv := hc.env d
  rw [hb] at hv
  unfold yielded
  rw [hj]
  have : a.tmps.getD d undef = .tuple #[] := by
    cases hq : a.tmps.getD d undef <;> rw [hq] at hv <;> cases hv
    rename_i hn _
    rw [Array.size_eq_zero_iff.1 hn.symm]
  cases hq : a.tmps[d]? with
  | none => simp [hq]
  | some u =>
    have : u = .tuple #[] := by simpa [hq] using this
    subst this
    simp [hq]

theorem undef_ok {O : Nat → Prop} {w : World} {S : List Slot} : VR O w S (.tup []) undef := .tup rfl fun _ _ _ h => by simp at h

/-- An operation that stands under a condition of another one's. -/
theorem ao_skipped {o : Oper} {j : Nat} {want b : Bool} {d : Nat} (hg : o.guard = some (j, want)) (hj : (ops[j]?).bind (·.dst) = some d) (hb : get env d = .bool b) (hne : b ≠ want) (hd : ∀ t, o.dst = some t → t < N)
    (h : AOps P N B ops rest Q (put env o.dst (.tup [])) H) : AOps P N B ops (o :: rest) Q env H := by
  intro S a w hc hB
  refine wpList_step fun next hnext => ?_
  rw [if_neg (by simp [Region.wanted, hg, yielded_of hc hj hb, hne])]
  exact hnext _ _ (h S _ w (hc.put (Ext.refl S w) hc.heap hd undef_ok) hB)
/-- The other one has not been carried out itself. -/
theorem ao_unasked {o : Oper} {j : Nat} {want : Bool} {d : Nat} (hg : o.guard = some (j, want)) (hj : (ops[j]?).bind (·.dst) = some d) (hb : get env d = .tup []) (hd : ∀ t, o.dst = some t → t < N)
    (h : AOps P N B ops rest Q (put env o.dst (.tup [])) H) : AOps P N B ops (o :: rest) Q env H := by
  intro S a w hc hB
  refine wpList_step fun next hnext => ?_
  rw [if_neg (by simp [Region.wanted, hg, not_yielded hc hj hb])]
  exact hnext _ _ (h S _ w (hc.put (Ext.refl S w) hc.heap hd undef_ok) hB)

theorem ao_wanted {o : Oper} {j : Nat} {want : Bool} {d : Nat} (hg : o.guard = some (j, want)) (hj : (ops[j]?).bind (·.dst) = some d) (hb : get env d = .bool want) (hd : ∀ t, o.dst = some t → t < N) {K X : AV → Heap → Prop} (h : AOp P N o env H K X)
    (hK : ∀ v H', K v H' → AOps P N B ops rest Q (put env o.dst v) H') (hX : ∀ v H', X v H' → Q (.pan v) env H') : AOps P N B ops (o :: rest) Q env H := by
  intro S a w hc hB
  refine wpList_step fun next hnext => ?_
  rw [if_pos (by simp [Region.wanted, hg, yielded_of hc hj hb])]
  refine h S a w hc next _ ?_ ?_
  · intro v u H' S' w' hk hh hx hv
    exact hnext _ _ (hK v H' hk S' _ w' (hc.put hx hh hd hv) (hB.trans hx))
  · intro v u H' S' w' hk hh hx hv
    exact ⟨.pan v, env, H', S', hX v H' hk, .pan hv, hc.step hx hh, hB.trans hx⟩

/-! ### From a body to a call -/
def params : Nat → List AV → Env
  | _, [] => []
  | i, v :: vs => (i, v) :: params (i + 1) vs
def retv (env : Env) : List Nat → AV
  | [t] => get env t
  | ts => .tup (ts.map (get env))
def BodyPost (ts : List Nat) (R : AOut → Heap → Prop) : Post
  | .nrm, e, H | .ret, e, H => R (.ret (retv e ts)) H
  | .pan v, _, H => R (.pan v) H
  | .brk _, _, _ => False

theorem get_params (vs : List AV) : ∀ (i t : Nat), get (params i vs) t = if i ≤ t then vs.getD (t - i) .junk else .junk := by
  induction vs with
  | nil => intro i t; simp [params, get]
  | cons v vs ih =>
    intro i t
    by_cases e : i = t
    · subst e; simp [params, get]
    · rw [params, get_put_other _ _ e, ih]
      by_cases h : i ≤ t
      · rw [if_pos h, if_pos (by omega), show t - i = (t - (i + 1)) + 1 by omega]; simp
      · rw [if_neg h, if_neg (by omega)]

def resv (tmps : Array Value) : List Nat → Value
  | [t] => tmps.getD t undef
  | ts => .tuple (ts.map fun t => tmps.getD t undef).toArray
theorem results_tmps {fn : Func} {ts : List Nat} (h : fn.results = (ts.map ResultVar.tmp).toArray) (tmps : Array Value) (w : World) :
    (results fn tmps).run P w = .ok (resv tmps ts) w := by
  have hm : ∀ (f : ResultVar → Sem Value), (∀ t, f (.tmp t) = pure (tmps.getD t undef)) → ∀ l : List Nat, ((l.map ResultVar.tmp).mapM f).run P w = .ok (l.map fun t => tmps.getD t undef) w := by
    intro f hf l
    induction l with
    | nil => simp
    | cons t l ih => simp only [List.map_cons, List.mapM_cons, Sem.run_bind, hf, Sem.run_pure, Result.andThen_ok, ih]
  unfold results
  rw [h]
  simp only [List.mapM_toArray, Sem.run_bind, Sem.run_map]
  rw [hm _ (fun _ => rfl)]
  simp only [Result.andThen_ok, Sem.run_pure]
  congr 1
  match ts with
  | [] => simp [resv]
  | [t] => simp [resv]
  | t :: u :: r => simp [resv]

/-- What is known where a call begins. -/
structure Begun (B : Base) (H : Heap) (args : List AV) : Prop where
  len : B.S.length = H.length
  heap : HBel H.length H
  args : AV.bels H.length args = true

theorem AC.of_body {f : FuncId} {fn : Func} {c : Code} {args : List AV} {R : AOut → Heap → Prop} (ts : List Nat) (hf : P.funcs[f]? = some fn) (hb : fn.body = some c) (hr : fn.results = (ts.map ResultVar.tmp).toArray)
    (hn : args.length ≤ fn.ntmps) (h : ∀ B, Begun B H args → AWp P fn.ntmps B c (BodyPost ts R) (params 0 args) H) : AC P f args H R := by
  intro S w cargs hH hv
  refine calls_of_wp hf hb ?_
  have hc : CR fn.ntmps (params 0 args) H S { tmps := cargs ++ Array.replicate (fn.ntmps - cargs.size) undef, defers := [] } w := by
    refine ⟨hH, fun t => ?_, ?_, rfl⟩
    · rw [get_params, if_pos (Nat.zero_le _), Nat.sub_zero]
      by_cases ht : t < args.length
      · have h1 : args.getD t .junk = args[t] := by simp [List.getD, ht]
        have ht' : t < cargs.size := by rw [← hv.1]; exact ht
        have h2 : (cargs ++ Array.replicate (fn.ntmps - cargs.size) undef).getD t undef = cargs[t] := by
          simp [Array.getElem?_append_left ht', ht']
        rw [h1, h2]
        exact hv.2 t _ _ (List.getElem?_eq_getElem ht) (Array.getElem?_eq_getElem ht')
      · have h1 : args.getD t .junk = .junk := by simp [List.getD, List.getElem?_eq_none (Nat.le_of_not_lt ht)]
        rw [h1]; exact .junk
    · have := hv.1
      simp
      omega
  have hbg : Begun ⟨S, w⟩ H args := by
    refine ⟨hH.len.symm, hH.bel, ?_⟩
    rw [AV.bels_iff]
    intro v hv'
    obtain ⟨j, hj⟩ := List.mem_iff_getElem?.1 hv'
    rw [hH.len]
    exact (hv.2 j v _ hj (Array.getElem?_eq_getElem (by rw [← hv.1]; exact (List.getElem?_eq_some_iff.1 hj).1))).bel
  refine wp_mono (h ⟨S, w⟩ hbg S _ w hc (Ext.refl S w)) ?_
  intro e a' w' ⟨x, env', H', S', q, r, c, k⟩
  have hres : ∃ u, (results fn a'.tmps).run P w' = .ok u w' ∧ VR (own S') w' S' (retv env' ts) u := by
    refine ⟨_, results_tmps hr a'.tmps w', ?_⟩
    match ts with
    | [] => exact .tup rfl fun _ _ _ h => by simp at h
    | [t] => exact c.env t
    | t :: u :: r =>
      refine .tup (by simp) fun j v x hv hx => ?_
      simp only [List.getElem?_map, List.getElem?_toArray] at hv hx
      cases hj : (t :: u :: r)[j]? with
      | none => simp [hj] at hv
      | some y =>
        rw [hj] at hv hx
        obtain rfl := Option.some.inj hv
        obtain rfl := Option.some.inj hx
        exact c.env y
  cases r with
  | nrm => obtain ⟨u, h1, h2⟩ := hres; exact ⟨c.defers, u, h1, _, H', S', q, .ret h2, c.heap, k⟩
  | ret => obtain ⟨u, h1, h2⟩ := hres; exact ⟨c.defers, u, h1, _, H', S', q, .ret h2, c.heap, k⟩
  | brk => exact q.elim
  | pan hv => exact ⟨c.defers, _, H', S', q, .pan hv, c.heap, k⟩
end
end Go.Av

/-
  THE RULES OF THE OPERATIONS THAT TURN NOTHING IN MEMORY: numbers, bools, strings, aggregates, addresses, loads, slices that are cut.
-/
namespace Go.Av

/-! ### What the program's tables say of a type -/
class TyI (P : Program) (t : TypeId) (agg : outParam Bool) (sz : outParam Nat) : Prop where
  ud : (P.underlying t).map (fun d => match d with | .struct _ | .array _ _ => true | _ => false) = some agg
  info : (P.info? t).map (·.size) = some sz
class FldI (P : Program) (s : TypeId) (f : Nat) (off : outParam Nat) (ft : outParam TypeId) : Prop where
  ud : (match P.underlying s with | some (.struct fs) => (fs[f]?).map fun x => (x.offset, x.type) | _ => none) = some (off, ft)
class SlI (P : Program) (t : TypeId) (e : outParam TypeId) : Prop where
  ud : P.underlying t = some (.slice e)
class ArI (P : Program) (t : TypeId) (n : outParam Nat) (e : outParam TypeId) : Prop where
  ud : P.underlying t = some (.array n e)
class UdI (P : Program) (t : TypeId) (d : outParam TypeDesc) : Prop where
  ud : P.underlying t = some d
class ZeI (P : Program) (t : TypeId) (z : outParam Value) : Prop where
  ze : (P.info? t).bind (·.zero) = some z
class ByI (P : Program) (t : TypeId) (n : outParam Nat) : Prop where
  by_ : (P.info? t).map (·.bytes) = some n

theorem run_und {P : Program} {t : TypeId} {d : TypeDesc} (h : P.underlying t = some d) (w : World) : (underlying t).run P w = .ok d w := by simp [underlying, h]
theorem run_isAgg {P : Program} {t : TypeId} {agg : Bool} {sz : Nat} [h : TyI P t agg sz] (w : World) : (isAgg t).run P w = .ok agg w := by
  have hu := h.ud
  cases hd : P.underlying t with
  | none => simp [hd] at hu
  | some d =>
    rw [hd] at hu
    simp only [Option.map_some, Option.some.injEq] at hu
    unfold isAgg
    simp only [Sem.run_bind, run_und hd, Result.andThen_ok]
    cases d <;> simp_all
theorem run_sz {P : Program} {t : TypeId} {agg : Bool} {sz : Nat} [h : TyI P t agg sz] (w : World) : (sizeOf t).run P w = .ok sz w := by
  have hi := h.info
  cases hd : P.info? t with
  | none => simp [hd] at hi
  | some i => simp [hd] at hi; simp [sizeOf, typeInfo, hd, hi]
theorem run_ze {P : Program} {t : TypeId} {z : Value} [h : ZeI P t z] (w : World) : (zeroValue t).run P w = .ok z w := by
  have hi := h.ze
  cases hd : P.info? t with
  | none => simp [hd] at hi
  | some i => simp [hd] at hi; simp [zeroValue, typeInfo, hd, hi]

/-! ### One operation that turns nothing -/
/-- It yields v and turns nothing; wherever it stands. -/
def V1 (P : Program) (N : Nat) (op : Op) (ty : TypeId) (env : Env) (H : Heap) (v : AV) : Prop :=
  ∀ S a w, CR N env H S a w → ∃ u, (∀ dst pos after guard, (execOp a.eval ⟨dst, op, ty, pos, after, guard⟩).run P w = .ok (.value u) w) ∧ VR (own S) w S v u

/-- It yields v, and the memory is H' behind it; wherever it stands. -/
def V2 (P : Program) (N : Nat) (op : Op) (ty : TypeId) (env : Env) (H : Heap) (v : AV) (H' : Heap) : Prop :=
  ∀ dst pos after guard, AOp P N ⟨dst, op, ty, pos, after, guard⟩ env H (fun v' h' => v' = v ∧ h' = H') (fun _ _ => False)

section
variable {P : Program} {N : Nat} {B : Base} {Q : Post} {env : Env} {H : Heap} {ops : Array Oper} {rest : List Oper} {op : Op} {ty : TypeId} {pos : String} {after : Array Edge}

theorem V1.toV2 {v : AV} (h : V1 P N op ty env H v) : V2 P N op ty env H v H := by
  intro dst pos after guard S a w hc next Q' hn _
  obtain ⟨u, hr, hv⟩ := h S a w hc
  unfold Oper.wp
  rw [hr]
  exact hn v u H S w ⟨rfl, rfl⟩ hc.heap (Ext.refl S w) hv

theorem ao2 {dst : Option Nat} {v : AV} {H' : Heap} (hd : ∀ t, dst = some t → t < N) (h1 : V2 P N op ty env H v H') (h : AOps P N B ops rest Q (put env dst v) H') : AOps P N B ops (⟨dst, op, ty, pos, after, none⟩ :: rest) Q env H :=
  ao_cons rfl hd (h1 dst pos after none) (by rintro _ _ ⟨rfl, rfl⟩; exact h) (fun _ _ h => h.elim)
theorem ao1 {d : Nat} {v : AV} (hd : d < N) (h1 : V1 P N op ty env H v) (h : AOps P N B ops rest Q ((d, v) :: env) H) : AOps P N B ops (⟨some d, op, ty, pos, after, none⟩ :: rest) Q env H :=
  ao2 (by rintro _ ⟨⟩; exact hd) h1.toV2 h
/-- A guarded operation: one of the two ways. -/
theorem ao_g {d g : Nat} {b want : Bool} {j : Nat} (hj : (ops[j]?).bind (·.dst) = some g) (hb : get env g = .bool b) (hd : d < N)
    (h1 : b = want → ∃ v H', V2 P N op ty env H v H' ∧ AOps P N B ops rest Q ((d, v) :: env) H')
    (h2 : b = !want → AOps P N B ops rest Q ((d, .tup []) :: env) H) : AOps P N B ops (⟨some d, op, ty, pos, after, some (j, want)⟩ :: rest) Q env H := by
  have hd' : ∀ t, (some d : Option Nat) = some t → t < N := by rintro _ ⟨⟩; exact hd
  by_cases e : b = want
  · obtain ⟨v, H', hv, hk⟩ := h1 e
    subst e
    exact ao_wanted rfl hj hb hd' (hv (some d) pos after _) (by rintro _ _ ⟨rfl, rfl⟩; exact hk) (fun _ _ h => h.elim)
  · refine ao_skipped rfl hj hb e hd' (h2 ?_)
    cases b <;> cases want <;> simp_all
/-- A guarded operation that is wanted. -/
theorem ao_gy {d g : Nat} {want : Bool} {j : Nat} {v : AV} {H' : Heap} (hj : (ops[j]?).bind (·.dst) = some g) (hb : get env g = .bool want) (hd : d < N)
    (h1 : V2 P N op ty env H v H') (h : AOps P N B ops rest Q ((d, v) :: env) H') : AOps P N B ops (⟨some d, op, ty, pos, after, some (j, want)⟩ :: rest) Q env H :=
  ao_wanted rfl hj hb (by rintro _ ⟨⟩; exact hd) (h1 (some d) pos after _) (by rintro _ _ ⟨rfl, rfl⟩; exact h) (fun _ _ h => h.elim)
/-- A guarded operation that is not. -/
theorem ao_gn {d g : Nat} {b want : Bool} {j : Nat} (hj : (ops[j]?).bind (·.dst) = some g) (hb : get env g = .bool b) (hne : b ≠ want) (hd : d < N)
    (h : AOps P N B ops rest Q ((d, .tup []) :: env) H) : AOps P N B ops (⟨some d, op, ty, pos, after, some (j, want)⟩ :: rest) Q env H :=
  ao_skipped rfl hj hb hne (by rintro _ ⟨⟩; exact hd) h

/-! #### Moves -/
theorem o_move {x : Operand} {v : AV} (h : aev env x = v) : V1 P N (.move x) ty env H v := fun _ a _ hc => ⟨a.eval x, fun _ _ _ _ => rfl, h ▸ hc.ev x⟩
theorem o_assign {x : Operand} {v : AV} (h : aev env x = v) : V1 P N (.assign x) ty env H v := fun _ a _ hc => ⟨a.eval x, fun _ _ _ _ => rfl, h ▸ hc.ev x⟩

theorem ev_bool {S : List Slot} {a : Act} {w : World} (hc : CR N env H S a w) {x : Operand} {b : Bool} (h : aev env x = .bool b) : a.eval x = .bool b := by
  have := hc.ev x
  rw [h] at this
  generalize a.eval x = u at this
  cases this
  rfl
theorem ev_int {S : List Slot} {a : Act} {w : World} (hc : CR N env H S a w) {x : Operand} {k : IntKind} {n : Int} (h : aev env x = .int k n) : a.eval x = .int k n := by
  have := hc.ev x
  rw [h] at this
  generalize a.eval x = u at this
  cases this
  rfl
theorem ev_str {S : List Slot} {a : Act} {w : World} (hc : CR N env H S a w) {x : Operand} {s : ByteArray} (h : aev env x = .str s) : a.eval x = .string s := by
  have := hc.ev x
  rw [h] at this
  generalize a.eval x = u at this
  cases this
  rfl

theorem o_pick {c x y : Operand} {b : Bool} {v : AV} (hc : aev env c = .bool b) (h1 : b = true → aev env x = v) (h2 : b = false → aev env y = v) : V1 P N (.pick c x y) ty env H v := fun S a w h => by
  refine ⟨if b then a.eval x else a.eval y, fun _ _ _ _ => ?_, ?_⟩
  · cases b <;> simp [execOp, ev_bool h hc, asBool]
  · cases b
    · rw [← h2 rfl]; exact h.ev y
    · rw [← h1 rfl]; exact h.ev x
theorem o_pick_t {c x y : Operand} {v : AV} (hc : aev env c = .bool true) (h1 : aev env x = v) : V1 P N (.pick c x y) ty env H v := o_pick hc (fun _ => h1) (fun h => by cases h)
theorem o_pick_f {c x y : Operand} {v : AV} (hc : aev env c = .bool false) (h1 : aev env y = v) : V1 P N (.pick c x y) ty env H v := o_pick hc (fun h => by cases h) (fun _ => h1)
theorem o_pick_b {c x y : Operand} {b p q : Bool} (hc : aev env c = .bool b) (h1 : aev env x = .bool p) (h2 : aev env y = .bool q) : V1 P N (.pick c x y) ty env H (.bool (if b then p else q)) :=
  o_pick hc (by rintro rfl; exact h1) (by rintro rfl; exact h2)

/-! #### Numbers -/
theorem o_add {x y : Operand} {t t' : TypeId} {k : IntKind} {p q r : Int} (hx : aev env x = .int k p) (hy : aev env y = .int k q) (hr : k.wrap (p + q) = r) : V1 P N (.binOp .add t x y t') ty env H (.int k r) := fun S a w h =>
  ⟨.int k (k.wrap (p + q)), fun _ _ _ _ => by simp [execOp, ev_int h hx, ev_int h hy, eqGuard, binOp, Op.intArith], hr ▸ .int⟩
theorem o_sub {x y : Operand} {t t' : TypeId} {k : IntKind} {p q r : Int} (hx : aev env x = .int k p) (hy : aev env y = .int k q) (hr : k.wrap (p - q) = r) : V1 P N (.binOp .sub t x y t') ty env H (.int k r) := fun S a w h =>
  ⟨.int k (k.wrap (p - q)), fun _ _ _ _ => by simp [execOp, ev_int h hx, ev_int h hy, eqGuard, binOp, Op.intArith], hr ▸ .int⟩
theorem o_mul {x y : Operand} {t t' : TypeId} {k : IntKind} {p q r : Int} (hx : aev env x = .int k p) (hy : aev env y = .int k q) (hr : k.wrap (p * q) = r) : V1 P N (.binOp .mul t x y t') ty env H (.int k r) := fun S a w h =>
  ⟨.int k (k.wrap (p * q)), fun _ _ _ _ => by simp [execOp, ev_int h hx, ev_int h hy, eqGuard, binOp, Op.intArith], hr ▸ .int⟩
theorem o_quo {x y : Operand} {t t' : TypeId} {k : IntKind} {p q r : Int} (hx : aev env x = .int k p) (hy : aev env y = .int k q) (h0 : q ≠ 0) (hr : k.wrap (p.tdiv q) = r) : V1 P N (.binOp .quo t x y t') ty env H (.int k r) := fun S a w h =>
  ⟨.int k (k.wrap (p.tdiv q)), fun _ _ _ _ => by simp [execOp, ev_int h hx, ev_int h hy, eqGuard, binOp, Op.intDiv, h0], hr ▸ .int⟩
theorem o_rem {x y : Operand} {t t' : TypeId} {k : IntKind} {p q r : Int} (hx : aev env x = .int k p) (hy : aev env y = .int k q) (h0 : q ≠ 0) (hr : p.tmod q = r) : V1 P N (.binOp .rem t x y t') ty env H (.int k r) := fun S a w h =>
  ⟨.int k (p.tmod q), fun _ _ _ _ => by simp [execOp, ev_int h hx, ev_int h hy, eqGuard, binOp, Op.intDiv, h0], hr ▸ .int⟩
theorem o_and {x y : Operand} {t t' : TypeId} {k : IntKind} {p q r : Int} (hx : aev env x = .int k p) (hy : aev env y = .int k q) (hr : k.wrap (BitVec.ofInt k.bits p &&& BitVec.ofInt k.bits q).toNat = r) : V1 P N (.binOp .and t x y t') ty env H (.int k r) := fun S a w h =>
  ⟨.int k (k.wrap (BitVec.ofInt k.bits p &&& BitVec.ofInt k.bits q).toNat), fun _ _ _ _ => by simp only [execOp, ev_int h hx, ev_int h hy, eqGuard, binOp, Op.intBits]; simp, hr ▸ .int⟩
theorem o_or {x y : Operand} {t t' : TypeId} {k : IntKind} {p q r : Int} (hx : aev env x = .int k p) (hy : aev env y = .int k q) (hr : k.wrap (BitVec.ofInt k.bits p ||| BitVec.ofInt k.bits q).toNat = r) : V1 P N (.binOp .or t x y t') ty env H (.int k r) := fun S a w h =>
  ⟨.int k (k.wrap (BitVec.ofInt k.bits p ||| BitVec.ofInt k.bits q).toNat), fun _ _ _ _ => by simp only [execOp, ev_int h hx, ev_int h hy, eqGuard, binOp, Op.intBits]; simp, hr ▸ .int⟩
theorem o_andNot {x y : Operand} {t t' : TypeId} {k : IntKind} {p q r : Int} (hx : aev env x = .int k p) (hy : aev env y = .int k q) (hr : k.wrap (BitVec.ofInt k.bits p &&& ~~~ (BitVec.ofInt k.bits q)).toNat = r) : V1 P N (.binOp .andNot t x y t') ty env H (.int k r) := fun S a w h =>
  ⟨.int k (k.wrap (BitVec.ofInt k.bits p &&& ~~~ (BitVec.ofInt k.bits q)).toNat), fun _ _ _ _ => by simp only [execOp, ev_int h hx, ev_int h hy, eqGuard, binOp, Op.intBits]; simp, hr ▸ .int⟩
theorem o_shl {x y : Operand} {t t' : TypeId} {k k' : IntKind} {p q r : Int} (hx : aev env x = .int k p) (hy : aev env y = .int k' q) (h0 : 0 ≤ q) (hr : k.wrap (p * 2 ^ min q.toNat k.bits) = r) : V1 P N (.binOp .shl t x y t') ty env H (.int k r) := fun S a w h =>
  ⟨.int k (k.wrap (p * 2 ^ min q.toNat k.bits)), fun _ _ _ _ => by simp [execOp, ev_int h hx, ev_int h hy, eqGuard, binOp, Op.shift, Int.not_lt.2 h0], hr ▸ .int⟩
theorem o_shr {x y : Operand} {t t' : TypeId} {k k' : IntKind} {p q r : Int} (hx : aev env x = .int k p) (hy : aev env y = .int k' q) (h0 : 0 ≤ q) (hr : p.fdiv (2 ^ min q.toNat k.bits) = r) : V1 P N (.binOp .shr t x y t') ty env H (.int k r) := fun S a w h =>
  ⟨.int k (p.fdiv (2 ^ min q.toNat k.bits)), fun _ _ _ _ => by simp [execOp, ev_int h hx, ev_int h hy, eqGuard, binOp, Op.shift, Int.not_lt.2 h0], hr ▸ .int⟩
theorem o_eq {x y : Operand} {t t' : TypeId} {k : IntKind} {p q : Int} (hx : aev env x = .int k p) (hy : aev env y = .int k q) : V1 P N (.binOp .eql t x y t') ty env H (.bool (p == q)) := fun S a w h =>
  ⟨.bool (p == q), fun _ _ _ _ => by simp [execOp, ev_int h hx, ev_int h hy, eqGuard, binOp, Op.intCmp], .bool⟩
theorem o_ne {x y : Operand} {t t' : TypeId} {k : IntKind} {p q : Int} (hx : aev env x = .int k p) (hy : aev env y = .int k q) : V1 P N (.binOp .neq t x y t') ty env H (.bool (p != q)) := fun S a w h =>
  ⟨.bool (p != q), fun _ _ _ _ => by simp [execOp, ev_int h hx, ev_int h hy, eqGuard, binOp, Op.intCmp], .bool⟩
theorem o_lt {x y : Operand} {t t' : TypeId} {k : IntKind} {p q : Int} (hx : aev env x = .int k p) (hy : aev env y = .int k q) : V1 P N (.binOp .lss t x y t') ty env H (.bool (decide (p < q))) := fun S a w h =>
  ⟨.bool (p < q), fun _ _ _ _ => by simp [execOp, ev_int h hx, ev_int h hy, eqGuard, binOp, Op.intCmp], .bool⟩
theorem o_le {x y : Operand} {t t' : TypeId} {k : IntKind} {p q : Int} (hx : aev env x = .int k p) (hy : aev env y = .int k q) : V1 P N (.binOp .leq t x y t') ty env H (.bool (decide (p ≤ q))) := fun S a w h =>
  ⟨.bool (p ≤ q), fun _ _ _ _ => by simp [execOp, ev_int h hx, ev_int h hy, eqGuard, binOp, Op.intCmp], .bool⟩
theorem o_gt {x y : Operand} {t t' : TypeId} {k : IntKind} {p q : Int} (hx : aev env x = .int k p) (hy : aev env y = .int k q) : V1 P N (.binOp .gtr t x y t') ty env H (.bool (decide (q < p))) := fun S a w h =>
  ⟨.bool (p > q), fun _ _ _ _ => by simp [execOp, ev_int h hx, ev_int h hy, eqGuard, binOp, Op.intCmp], .bool⟩
theorem o_ge {x y : Operand} {t t' : TypeId} {k : IntKind} {p q : Int} (hx : aev env x = .int k p) (hy : aev env y = .int k q) : V1 P N (.binOp .geq t x y t') ty env H (.bool (decide (q ≤ p))) := fun S a w h =>
  ⟨.bool (p ≥ q), fun _ _ _ _ => by simp [execOp, ev_int h hx, ev_int h hy, eqGuard, binOp, Op.intCmp], .bool⟩
theorem o_not {x : Operand} {t : TypeId} {b : Bool} (hx : aev env x = .bool b) : V1 P N (.unOp .not t x) ty env H (.bool (!b)) := fun S a w h =>
  ⟨.bool (!b), fun _ _ _ _ => by simp [execOp, ev_bool h hx, Op.unary], .bool⟩
theorem o_neg {x : Operand} {t : TypeId} {k : IntKind} {p r : Int} (hx : aev env x = .int k p) (hr : k.wrap (0 - p) = r) : V1 P N (.unOp .neg t x) ty env H (.int k r) := fun S a w h =>
  ⟨.int k (k.wrap (0 - p)), fun _ _ _ _ => by simp [execOp, ev_int h hx, Op.unary, Op.intArith], hr ▸ .int⟩
theorem run_equal_bool {t : TypeId} [hu : UdI P t .bool] (p q : Bool) (w : World) : (Op.equal t (.bool p) (.bool q)).run P w = .ok (p == q) w := by
  show (Op.equalIn (9999 + 1) t _ _).run P w = _
  rw [Op.equalIn]
  simp only [Sem.run_bind, run_und hu.ud, Result.andThen_ok, Sem.run_pure]
theorem binOp_eq_bool (t : TypeId) (p q : Bool) : binOp .eql t (.bool p) (.bool q) = (do pure (.bool (← Op.equal t (.bool p) (.bool q)))) := rfl
theorem binOp_ne_bool (t : TypeId) (p q : Bool) : binOp .neq t (.bool p) (.bool q) = (do pure (.bool (!(← Op.equal t (.bool p) (.bool q))))) := rfl
theorem o_beq {x y : Operand} {t t' : TypeId} {p q : Bool} [hu : UdI P t .bool] (hx : aev env x = .bool p) (hy : aev env y = .bool q) : V1 P N (.binOp .eql t x y t') ty env H (.bool (p == q)) := fun S a w h =>
  ⟨.bool (p == q), fun _ _ _ _ => by simp [execOp, ev_bool h hx, ev_bool h hy, eqGuard, binOp_eq_bool, run_equal_bool], .bool⟩
theorem o_bne {x y : Operand} {t t' : TypeId} {p q : Bool} [hu : UdI P t .bool] (hx : aev env x = .bool p) (hy : aev env y = .bool q) : V1 P N (.binOp .neq t x y t') ty env H (.bool (p != q)) := fun S a w h =>
  ⟨.bool (p != q), fun _ _ _ _ => by simp [execOp, ev_bool h hx, ev_bool h hy, eqGuard, binOp_ne_bool, run_equal_bool]; cases p <;> cases q <;> rfl, .bool⟩
theorem o_conv_int {x : Operand} {s d : TypeId} {k k' : IntKind} {p r : Int} {d' : TypeDesc} [hs : UdI P s d'] [hu : UdI P d (.int k)] (hx : aev env x = .int k' p) (hr : k.wrap p = r) : V1 P N (.convert s d x) ty env H (.int k r) := fun S a w h =>
  ⟨.int k (k.wrap p), fun _ _ _ _ => by simp [execOp, ev_int h hx, convert, run_und hu.ud, run_und hs.ud, Conv.intToInt], hr ▸ .int⟩

end
end Go.Av

/-
  THE ABSTRACT MEMORY UNDER THE MODEL'S STEPS: a row is written, a new one is made, one moves to another block; and the rules of loads, stores, new variables.
-/
namespace Go.Av

def RowOK (O : Nat → Prop) (S : List Slot) (w : World) (sz : Nat) (arr : Array Value) (rows : List (List AV)) : Prop :=
  rows.length * sz ≤ arr.size ∧ ∀ (i : Nat) (r : List AV), rows[i]? = some r → r.length = sz ∧ ∀ (j : Nat) (v : AV), r[j]? = some v → v.leaf = true ∧ ∃ u, arr[i * sz + j]? = some u ∧ VR O w S v u

theorem ObjOK.row {S : List Slot} {w : World} {o : AObj} {s : Slot} (h : ObjOK S w o s) {b : Nat} (hp : s.place = some b) : ∃ (arr : Array Value) (ty : TypeId), w.heap[b]? = some (Obj.cells arr ty (0, 0)) ∧ RowOK (own S) S w o.sz arr o.rows := by
  obtain ⟨arr, ty, h1, h2, h3⟩ := h.lies b hp
  exact ⟨arr, ty, h1, h2, h3⟩

theorem RowOK.mono {O O' : Nat → Prop} {S S' : List Slot} {w w' : World} {sz : Nat} {arr : Array Value} {rows : List (List AV)} (h : RowOK O S w sz arr rows) (hw : Stp O O' w w') (hS : SExt S S') : RowOK O' S' w' sz arr rows :=
  ⟨h.1, fun i r hr => ⟨(h.2 i r hr).1, fun j v hv => by
    obtain ⟨hl, u, hu, hvr⟩ := (h.2 i r hr).2 j v hv
    exact ⟨hl, u, hu, hvr.mono hw hS⟩⟩⟩

theorem HRel.slot {H : Heap} {S : List Slot} {w : World} (h : HRel H S w) {id : Nat} {o : AObj} (hid : H[id]? = some o) : ∃ s, S[id]? = some s ∧ ObjOK S w o s := by
  have hi : id < S.length := by rw [← h.len]; exact (List.getElem?_eq_some_iff.1 hid).1
  exact ⟨S[id], List.getElem?_eq_getElem hi, h.obj id o _ hid (List.getElem?_eq_getElem hi)⟩

/-- A new world that keeps all blocks but one of the call's own, the sizes and the rest. -/
theorem Ext.of_row {S S' : List Slot} {w w' : World} {b : Nat} (hb : own S b) (hos : w'.os = w.os) (htape : w'.tape = w.tape) (hout : w'.output = w.output) (hsize : w.heap.size ≤ w'.heap.size)
    (hother : ∀ k, k < w.heap.size → k ≠ b → w'.heap[k]? = w.heap[k]?) (hrow : ∀ arr ty, w.heap[b]? = some (Obj.cells arr ty (0, 0)) → ∃ arr', w'.heap[b]? = some (Obj.cells arr' ty (0, 0)) ∧ arr'.size = arr.size)
    (hown : ∀ k, k < w.heap.size → ¬ own S k → ¬ own S' k) (hS : SExt S S') : Ext S w S' w' := by
  refine ⟨hos, htape, hout, ⟨hsize, fun k hk ho => ⟨hown k hk ho, hother k hk (fun e => ho (e ▸ hb))⟩, fun k arr ty hk => ?_⟩, hS⟩
  by_cases e : k = b
  · subst e; exact hrow arr ty hk
  · exact ⟨arr, by rw [hother k (Array.getElem?_eq_some_iff.1 hk).1 e]; exact hk, rfl⟩

theorem setRow_ext {S : List Slot} {w : World} {b : Nat} {arr arr' : Array Value} {ty : TypeId} (ho : own S b) (hb : w.heap[b]? = some (Obj.cells arr ty (0, 0))) (hsz : arr'.size = arr.size) : Ext S w S (w.setRow b arr') :=
  .of_row ho rfl rfl rfl (by simp) (fun k _ hk => setRow_other w b k arr' hk) (fun a t h => by
    rw [hb] at h
    injection h with h
    injection h with h1 h2
    subst h1; subst h2
    exact ⟨arr', setRow_heap w b arr arr' ty (0, 0) hb, hsz⟩) (fun _ _ h => h) (SExt.refl S)

theorem HRel.write {H : Heap} {S : List Slot} {w : World} (h : HRel H S w) {id b : Nat} {o : AObj} {s : Slot} {arr arr' : Array Value} {ty : TypeId} {rows' : List (List AV)}
    (hid : H[id]? = some o) (hs : S[id]? = some s) (hp : s.place = some b) (hb : w.heap[b]? = some (Obj.cells arr ty (0, 0))) (hsz : arr'.size = arr.size) (hr : RowOK (own S) S w o.sz arr' rows') :
    HRel (H.set id { o with rows := rows' }) S (w.setRow b arr') ∧ Ext S w S (w.setRow b arr') := by
  have hx : Ext S w S (w.setRow b arr') := setRow_ext ⟨id, s, hs, hp⟩ hb hsz
  have ho := h.obj id o s hid hs
  refine ⟨⟨by simpa using h.len, fun id' o' s' ho' hs' => ?_, h.inj⟩, hx⟩
  by_cases e : id = id'
  · subst e
    rw [hs] at hs'
    obtain rfl := Option.some.inj hs'
    rw [List.getElem?_set_self (List.getElem?_eq_some_iff.1 hid).1] at ho'
    obtain rfl := Option.some.inj ho'
    refine ⟨ho.gen, ho.sz, ho.pos, fun hn => (by rw [hp] at hn; cases hn), fun b' hb' => ?_⟩
    rw [hp] at hb'
    obtain rfl := Option.some.inj hb'
    exact ⟨arr', ty, setRow_heap w b arr arr' ty (0, 0) hb, (hr.mono hx.stp hx.slots).1, (hr.mono hx.stp hx.slots).2⟩
  · rw [List.getElem?_set_ne e] at ho'
    have ok := h.obj id' o' s' ho' hs'
    refine ⟨ok.gen, ok.sz, ok.pos, ok.nope, fun b' hb' => ?_⟩
    have hne : b' ≠ b := fun e2 => e (h.inj id id' s s' b hs hs' hp (e2 ▸ hb'))
    obtain ⟨arr2, ty2, h2, r2⟩ := ok.row hb'
    exact ⟨arr2, ty2, by rw [setRow_other w b b' arr' hne]; exact h2, (r2.mono hx.stp hx.slots).1, (r2.mono hx.stp hx.slots).2⟩

/-- A row that moves, or grows where it lies: its number of moves goes up. -/
theorem HRel.move {H : Heap} {S : List Slot} {w w' : World} (h : HRel H S w) {id b : Nat} {o : AObj} {s : Slot} {arr : Array Value} {ty : TypeId} {rows' : List (List AV)}
    (hid : H[id]? = some o) (hs : S[id]? = some s) (hx : Ext S w (S.set id ⟨s.gen + 1, s.sz, some b⟩) w') (hnew : ∀ (j : Nat) (sj : Slot), S[j]? = some sj → sj.place = some b → j = id)
    (hkeep : ∀ (j : Nat) (sj : Slot) (b' : Nat), S[j]? = some sj → j ≠ id → sj.place = some b' → w'.heap[b']? = w.heap[b']?)
    (hb : w'.heap[b]? = some (Obj.cells arr ty (0, 0))) (hr : RowOK (own (S.set id ⟨s.gen + 1, s.sz, some b⟩)) (S.set id ⟨s.gen + 1, s.sz, some b⟩) w' o.sz arr rows') :
    HRel (H.set id ⟨o.gen + 1, o.sz, rows'⟩) (S.set id ⟨s.gen + 1, s.sz, some b⟩) w' := by
  have ho := h.obj id o s hid hs
  have hlt : id < S.length := (List.getElem?_eq_some_iff.1 hs).1
  have hltH : id < H.length := (List.getElem?_eq_some_iff.1 hid).1
  refine ⟨by simpa using h.len, fun id' o' s' ho' hs' => ?_, fun i j si sj b' hi hj hbi hbj => ?_⟩
  · by_cases e : id = id'
    · subst e
      rw [List.getElem?_set_self hlt] at hs'
      rw [List.getElem?_set_self hltH] at ho'
      obtain rfl := Option.some.inj hs'
      obtain rfl := Option.some.inj ho'
      refine ⟨by simp [ho.gen], ho.sz, ho.pos, fun hn => (by cases hn), fun b' hb' => ?_⟩
      obtain rfl := Option.some.inj hb'
      exact ⟨arr, ty, hb, hr.1, hr.2⟩
    · rw [List.getElem?_set_ne e] at ho' hs'
      have ok := h.obj id' o' s' ho' hs'
      refine ⟨ok.gen, ok.sz, ok.pos, ok.nope, fun b' hb' => ?_⟩
      obtain ⟨arr2, ty2, h2, r2⟩ := ok.row hb'
      exact ⟨arr2, ty2, by rw [hkeep id' s' b' hs' (Ne.symm e) hb']; exact h2, (r2.mono hx.stp hx.slots).1, (r2.mono hx.stp hx.slots).2⟩
  · by_cases ei : id = i
    · by_cases ej : id = j
      · exact ei.symm.trans ej
      · subst ei
        rw [List.getElem?_set_self hlt] at hi
        rw [List.getElem?_set_ne ej] at hj
        obtain rfl := Option.some.inj hi
        obtain rfl := Option.some.inj hbi
        exact (hnew j sj hj hbj).symm
    · by_cases ej : id = j
      · subst ej
        rw [List.getElem?_set_self hlt] at hj
        rw [List.getElem?_set_ne ei] at hi
        obtain rfl := Option.some.inj hj
        obtain rfl := Option.some.inj hbj
        exact hnew i si hi hbi
      · rw [List.getElem?_set_ne ei] at hi
        rw [List.getElem?_set_ne ej] at hj
        exact h.inj i j si sj b' hi hj hbi hbj

theorem SExt.bump {S : List Slot} {id : Nat} {s : Slot} {x : Slot} (hs : S[id]? = some s) (hx : s.gen < x.gen) : SExt S (S.set id x) := fun j sj hj => by
  by_cases e : id = j
  · subst e
    rw [hs] at hj
    obtain rfl := Option.some.inj hj
    exact ⟨x, List.getElem?_set_self (List.getElem?_eq_some_iff.1 hs).1, Nat.le_of_lt hx, fun e => by omega⟩
  · exact ⟨sj, by rw [List.getElem?_set_ne e]; exact hj, Nat.le_refl _, fun _ => ⟨rfl, rfl⟩⟩

/-- A new row. -/
theorem HRel.push {H : Heap} {S : List Slot} {w w' : World} (h : HRel H S w) {s : Slot} {rows : List (List AV)} (hx : Ext S w (S ++ [s]) w') (hpos : 0 < s.sz)
    (hold : ∀ b, b < w.heap.size → w'.heap[b]? = w.heap[b]?) (hnone : s.place = none → rows = [])
    (hsome : ∀ b, s.place = some b → w.heap.size ≤ b ∧ ∃ (arr : Array Value) (ty : TypeId), w'.heap[b]? = some (Obj.cells arr ty (0, 0)) ∧ RowOK (own (S ++ [s])) (S ++ [s]) w' s.sz arr rows) :
    HRel (H ++ [⟨s.gen, s.sz, rows⟩]) (S ++ [s]) w' := by
  refine ⟨by simp [h.len], fun id o' s' ho' hs' => ?_, fun i j si sj b' hi hj hbi hbj => ?_⟩
  · by_cases e : id < S.length
    · rw [List.getElem?_append_left e] at hs'
      rw [List.getElem?_append_left (by rw [h.len]; exact e)] at ho'
      have ok := h.obj id o' s' ho' hs'
      refine ⟨ok.gen, ok.sz, ok.pos, ok.nope, fun b' hb' => ?_⟩
      obtain ⟨arr2, ty2, h2, r2⟩ := ok.row hb'
      exact ⟨arr2, ty2, by rw [hold b' (Array.getElem?_eq_some_iff.1 h2).1]; exact h2, (r2.mono hx.stp hx.slots).1, (r2.mono hx.stp hx.slots).2⟩
    · have el : id = S.length := by
        have := (List.getElem?_eq_some_iff.1 hs').1
        simp at this
        omega
      subst el
      rw [List.getElem?_append_right (Nat.le_refl _)] at hs'
      rw [← h.len, List.getElem?_append_right (Nat.le_refl _)] at ho'
      simp at hs' ho'
      subst hs'; subst ho'
      refine ⟨rfl, rfl, hpos, hnone, fun b' hb' => ?_⟩
      obtain ⟨_, arr, ty, h1, h2⟩ := hsome b' hb'
      exact ⟨arr, ty, h1, h2.1, h2.2⟩
  · have key : ∀ (i : Nat) (si : Slot), (S ++ [s])[i]? = some si → si.place = some b' → (b' < w.heap.size ∧ S[i]? = some si) ∨ (w.heap.size ≤ b' ∧ i = S.length) := by
      intro i si hi hbi
      by_cases e : i < S.length
      · rw [List.getElem?_append_left e] at hi
        exact .inl ⟨own_lt h ⟨i, si, hi, hbi⟩, hi⟩
      · have el : i = S.length := by
          have := (List.getElem?_eq_some_iff.1 hi).1
          simp at this
          omega
        subst el
        rw [List.getElem?_append_right (Nat.le_refl _)] at hi
        simp at hi
        subst hi
        exact .inr ⟨(hsome b' hbi).1, rfl⟩
    rcases key i si hi hbi with ⟨h1, h2⟩ | ⟨h1, h2⟩ <;> rcases key j sj hj hbj with ⟨h3, h4⟩ | ⟨h3, h4⟩
    · exact h.inj i j si sj b' h2 h4 hbi hbj
    · omega
    · omega
    · omega

theorem own_snoc {S : List Slot} {s : Slot} {b : Nat} (h : own (S ++ [s]) b) : own S b ∨ s.place = some b := by
  obtain ⟨i, x, hx, hp⟩ := h
  by_cases e : i < S.length
  · rw [List.getElem?_append_left e] at hx; exact .inl ⟨i, x, hx, hp⟩
  · have el : i = S.length := by
      have := (List.getElem?_eq_some_iff.1 hx).1
      simp at this
      omega
    subst el
    rw [List.getElem?_append_right (Nat.le_refl _)] at hx
    simp at hx
    subst hx
    exact .inr hp

/-- The world behind a new row (draws may have gone ahead). -/
structure Made (w w' : World) (arr : Array Value) (ty : TypeId) : Prop where
  os : w'.os = w.os
  tape : w'.tape = w.tape
  output : w'.output = w.output
  size : w'.heap.size = w.heap.size + 1
  old : ∀ b, b < w.heap.size → w'.heap[b]? = w.heap[b]?
  new : w'.heap[w.heap.size]? = some (Obj.cells arr ty (0, 0))
theorem Made.alloc (w : World) (arr : Array Value) (ty : TypeId) : Made w (w.alloc (.cells arr ty)) arr ty :=
  ⟨rfl, rfl, rfl, by simp, fun b hb => (by first | exact heap_alloc_old w _ b hb | exact heap_alloc_old w _ hb), heap_alloc_new w _⟩
theorem Made.drew_alloc (w : World) (arr : Array Value) (ty : TypeId) : Made w (w.drew.alloc (.cells arr ty)) arr ty :=
  ⟨rfl, rfl, rfl, by simp, fun b hb => (by first | exact heap_alloc_old w.drew _ b hb | exact heap_alloc_old w.drew _ hb), heap_alloc_new w.drew _⟩

theorem Made.ext {S : List Slot} {w w' : World} {arr : Array Value} {ty : TypeId} (h : Made w w' arr ty) (g sz : Nat) : Ext S w (S ++ [⟨g, sz, some w.heap.size⟩]) w' := by
  refine ⟨h.os, h.tape, h.output, ⟨by rw [h.size]; omega, fun b hb ho => ⟨fun k => ?_, h.old b hb⟩, fun b arr ty hb => ⟨arr, by rw [h.old b (Array.getElem?_eq_some_iff.1 hb).1]; exact hb, rfl⟩⟩, SExt.snoc S _⟩
  rcases own_snoc k with k | k
  · exact ho k
  · simp at k; omega
theorem Made.same {S : List Slot} {w w' : World} {arr : Array Value} {ty : TypeId} (h : Made w w' arr ty) : Ext S w S w' := by
  refine ⟨h.os, h.tape, h.output, ⟨by rw [h.size]; omega, fun b hb ho => ⟨ho, h.old b hb⟩, fun b arr ty hb => ⟨arr, by rw [h.old b (Array.getElem?_eq_some_iff.1 hb).1]; exact hb, rfl⟩⟩, SExt.refl S⟩

theorem HRel.made {H : Heap} {S : List Slot} {w w' : World} {arr : Array Value} {ty : TypeId} (h : HRel H S w) (k : Made w w' arr ty) {sz : Nat} {rows : List (List AV)} (hpos : 0 < sz)
    (hr : RowOK (own S) S w sz arr rows) : HRel (H ++ [⟨0, sz, rows⟩]) (S ++ [⟨0, sz, some w.heap.size⟩]) w' ∧ Ext S w (S ++ [⟨0, sz, some w.heap.size⟩]) w' := by
  have hx := k.ext (S := S) 0 sz
  exact ⟨h.push hx hpos k.old (fun e => by cases e) (fun b hb => by simp at hb; subst hb; exact ⟨Nat.le_refl _, arr, ty, k.new, hr.mono hx.stp hx.slots⟩), hx⟩

theorem SExt.last (S : List Slot) (s : Slot) : (S ++ [s])[S.length]? = some s := by simp

/-- Cells of a value, from above. -/
def AV.cells : AV → List AV
  | .agg cs => cs
  | v => [v]
def AV.cellish : AV → Bool
  | .agg _ => true
  | v => v.leaf

theorem VR.cells {O : Nat → Prop} {w : World} {S : List Slot} {v : AV} {u : Value} (h : VR O w S v u) (hc : v.cellish = true) :
    v.cells.length = u.cells.size ∧ (∀ x ∈ u.cells.toList, x.oneCell' = true) ∧ ∀ (j : Nat) (x : AV), v.cells[j]? = some x → x.leaf = true ∧ ∃ y, u.cells[j]? = some y ∧ VR O w S x y := by
  have simple : ∀ {v : AV} {u : Value}, VR O w S v u → v.leaf = true → v.cells = [v] → u.cells = #[u] →
      v.cells.length = u.cells.size ∧ (∀ x ∈ u.cells.toList, x.oneCell' = true) ∧ ∀ (j : Nat) (x : AV), v.cells[j]? = some x → x.leaf = true ∧ ∃ y, u.cells[j]? = some y ∧ VR O w S x y := by
    intro v u h hl e1 e2
    rw [e1, e2]
    refine ⟨rfl, fun x hx => by simp at hx; subst hx; exact h.one hl, fun j x hx => ?_⟩
    cases j with
    | zero => simp at hx; subst hx; exact ⟨hl, u, by simp, h⟩
    | succ j => simp at hx
  have onecells : ∀ {u : Value}, u.oneCell' = true → u.cells = #[u] := by intro u hu; cases u <;> first | rfl | (simp [Value.oneCell'] at hu)
  cases h with
  | agg hn hl h =>
    rename_i cs vs
    refine ⟨hn, fun x hx => ?_, fun j x hx => ?_⟩
    · obtain ⟨j, hj⟩ := List.mem_iff_getElem?.1 hx
      have hj' : vs[j]? = some x := by simpa [Value.cells] using hj
      have hlt : j < cs.length := by rw [hn]; exact (Array.getElem?_eq_some_iff.1 hj').1
      exact (h j _ x (List.getElem?_eq_getElem hlt) hj').one (hl j _ (List.getElem?_eq_getElem hlt))
    · have hx' : cs[j]? = some x := hx
      have hlt : j < vs.size := by rw [← hn]; exact (List.getElem?_eq_some_iff.1 hx').1
      exact ⟨hl j x hx', vs[j], by simp [Value.cells, hlt], h j x _ hx' (Array.getElem?_eq_getElem hlt)⟩
  | junk => simp [AV.cellish, AV.leaf] at hc
  | raw => simp [AV.cellish, AV.leaf] at hc
  | know => simp [AV.cellish, AV.leaf] at hc
  | tup => simp [AV.cellish, AV.leaf] at hc
  | int => exact simple .int rfl rfl rfl
  | bool => exact simple .bool rfl rfl rfl
  | str => exact simple .str rfl rfl rfl
  | flt => exact simple .flt rfl rfl rfl
  | nsl => exact simple .nsl rfl rfl rfl
  | pl base sz u hcc hb hs hm hl hv => exact simple (.pl base sz u hcc hb hs hm hl hv) rfl rfl rfl
  | sl s hs hg h1 h => exact simple (.sl s hs hg h1 h) rfl rfl (onecells h1)
  | pt s hs hg h1 h => exact simple (.pt s hs hg h1 h) rfl rfl (onecells h1)
  | pp base sz u hb hs hm hl hv => exact simple (.pp base sz u hb hs hm hl hv) rfl rfl rfl
  | nptr => exact simple .nptr rfl rfl rfl
  | fn hp hq h1 h2 => exact simple (.fn hp hq h1 h2) rfl rfl rfl
  | nfn => exact simple .nfn rfl rfl rfl
  | ifc h => exact simple (.ifc h) rfl rfl rfl
  | nifc => exact simple .nifc rfl rfl rfl

/-! ### Addresses -/
theorem add_none (b o n : Nat) : (⟨b, o, none⟩ : Addr).add n = ⟨b, o + n, none⟩ := by unfold Addr.add; split <;> simp_all
theorem add_add (a : Addr) (m n : Nat) : (a.add m).add n = a.add (m + n) := by
  unfold Addr.add
  by_cases hm : m = 0 <;> by_cases hn : n = 0 <;> simp [hm, hn, Nat.add_assoc]

section
variable {P : Program} {N : Nat} {env : Env} {H : Heap} {ty : TypeId}

/-- What a pointer into the call's own memory is. -/
theorem CR.ptr {S : List Slot} {a : Act} {w : World} (hc : CR N env H S a w) {x : Operand} {id i j : Nat} {o : AObj} (hx : aev env x = .pt id o.gen i j) (hid : H[id]? = some o) :
    ∃ s b arr ty, S[id]? = some s ∧ s.place = some b ∧ a.eval x = .pointer (some ⟨b, i * o.sz + j, none⟩) ∧ w.heap[b]? = some (Obj.cells arr ty (0, 0)) ∧ RowOK (own S) S w o.sz arr o.rows := by
  have hv := hc.ev x
  rw [hx] at hv
  obtain ⟨s, hs, ok⟩ := hc.heap.slot hid
  generalize a.eval x = u at hv
  cases hv with
  | pt s' hs' hg _ h =>
    rw [hs] at hs'
    obtain rfl := Option.some.inj hs'
    obtain ⟨b, hb, rfl⟩ := h ok.gen.symm
    obtain ⟨arr, ty, h1, h2⟩ := ok.row hb
    exact ⟨s, b, arr, ty, hs, hb, by rw [ok.sz], h1, h2⟩

theorem run_loadVar1 {t : TypeId} {sz : Nat} [TyI P t false sz] {w : World} {ad : Addr} {u : Value} (h : w.cell? ad = some u) : (loadVar t ad).run P w = .ok u w := by
  simp [loadVar, run_isAgg (P := P) (t := t) (agg := false), h]
theorem run_loadVarN {t : TypeId} {sz : Nat} [TyI P t true sz] {w : World} {ad : Addr} {f : Nat → Value} (h : ∀ j, j < sz → w.cell? (ad.add j) = some (f j)) : (loadVar t ad).run P w = .ok (.agg ((List.range sz).map f).toArray) w := by
  simp [loadVar, run_isAgg (P := P) (t := t) (agg := true), run_sz (P := P) (t := t) (agg := true), run_loadCells w ad sz f h]

/-- A cell, or a struct, is read out of the call's own memory. -/
theorem o_load1 {t : TypeId} {x : Operand} {id i j sz : Nat} {o : AObj} {r : List AV} {v : AV} [TyI P t false sz] (hx : aev env x = .pt id o.gen i j) (hid : H[id]? = some o) (hr : o.rows[i]? = some r) (hv : r[j]? = some v) : V1 P N (.load t x) ty env H v := by
  intro S a w hc
  obtain ⟨s, b, arr, _, hs, hp, he, hb, hrow⟩ := hc.ptr hx hid
  obtain ⟨_, u, hu, hvr⟩ := (hrow.2 i r hr).2 j v hv
  refine ⟨u, fun _ _ _ _ => ?_, hvr⟩
  have hcell : w.cell? ⟨b, i * o.sz + j, none⟩ = some u := by rw [cell_of_row w b _ arr _ _ hb]; exact hu
  simp [execOp, he, Instr.loadAt, Instr.sureAddr, run_loadVar1 (P := P) (t := t) hcell]
theorem o_loadN {t : TypeId} {x : Operand} {id i j sz : Nat} {o : AObj} {r cs : List AV} [TyI P t true sz] (hx : aev env x = .pt id o.gen i j) (hid : H[id]? = some o) (hr : o.rows[i]? = some r) (hv : (r.drop j).take sz = cs) (hn : cs.length = sz) : V1 P N (.load t x) ty env H (.agg cs) := by
  intro S a w hc
  obtain ⟨s, b, arr, _, hs, hp, he, hb, hrow⟩ := hc.ptr hx hid
  have hcs : ∀ k, k < sz → ∃ v u, cs[k]? = some v ∧ v.leaf = true ∧ arr[i * o.sz + (j + k)]? = some u ∧ VR (own S) w S v u := by
    intro k hk
    have h1 : cs[k]? = some cs[k] := List.getElem?_eq_getElem (by omega)
    have h2 : r[j + k]? = some cs[k] := by
      rw [← h1, ← hv, List.getElem?_take, if_pos hk, List.getElem?_drop]
    obtain ⟨hl, u, hu, hvr⟩ := (hrow.2 i r hr).2 (j + k) _ h2
    exact ⟨cs[k], u, h1, hl, hu, hvr⟩
  have hcell : ∀ k, k < sz → w.cell? ((⟨b, i * o.sz + j, none⟩ : Addr).add k) = some ((fun k => arr.getD (i * o.sz + (j + k)) undef) k) := by
    intro k hk
    obtain ⟨v, u, _, _, hu, _⟩ := hcs k hk
    rw [add_none, cell_of_row w b _ arr _ _ hb, Nat.add_assoc]
    simp [hu]
  refine ⟨_, fun _ _ _ _ => by simp [execOp, he, Instr.loadAt, Instr.sureAddr, run_loadVarN (P := P) (t := t) hcell]; rfl, ?_⟩
  refine .agg (by simp [hn]) (fun k v hk => ?_) (fun k v u hk hu => ?_)
  · have hlt : k < sz := by rw [← hn]; exact (List.getElem?_eq_some_iff.1 hk).1
    obtain ⟨v', _, h1, h2, _⟩ := hcs k hlt
    rw [hk] at h1
    obtain rfl := Option.some.inj h1
    exact h2
  · have hlt : k < sz := by rw [← hn]; exact (List.getElem?_eq_some_iff.1 hk).1
    obtain ⟨v', u', h1, _, h3, h4⟩ := hcs k hlt
    rw [hk] at h1
    obtain rfl := Option.some.inj h1
    have : u = u' := by simpa [hlt, h3] using hu.symm
    rw [this]
    exact h4

/-- The same out of a slice that nobody writes any more. -/
theorem CR.pptr {S : List Slot} {a : Act} {w : World} (hc : CR N env H S a w) {x : Operand} {xs : List (List AV)} {i j : Nat} {r : List AV} (hx : aev env x = .pp xs i j) (hr : xs[i]? = some r) :
    ∃ (ad : Addr) (u : Nat → Value), a.eval x = .pointer (some (ad.add j)) ∧ ¬ own S ad.block ∧ ∀ k, k < r.length → w.cell? (ad.add k) = some (u k) ∧ ∀ v, r[k]? = some v → v.leaf = true ∧ VR (own S) w S v (u k) := by
  have hv := hc.ev x
  rw [hx] at hv
  generalize a.eval x = y at hv
  cases hv with
  | pp base sz u hb hs hm hl hv =>
    have hi : i < xs.length := (List.getElem?_eq_some_iff.1 hr).1
    refine ⟨base.add (i * sz), fun k => u i k, by rw [add_add], by rw [add_block]; exact hb.1, fun k hk => ⟨?_, fun v hvk => ⟨hl i k r v hr hvk, (hv i k r v hr hvk).mono (Stp.refl _ _) (SExt.nil S)⟩⟩⟩
    rw [add_add]
    exact hm i hi k (by rw [← hs i r hr]; exact hk)
theorem o_load1p {t : TypeId} {x : Operand} {i j sz : Nat} {xs : List (List AV)} {r : List AV} {v : AV} [TyI P t false sz] (hx : aev env x = .pp xs i j) (hr : xs[i]? = some r) (hv : r[j]? = some v) : V1 P N (.load t x) ty env H v := by
  intro S a w hc
  obtain ⟨ad, u, he, _, hk⟩ := hc.pptr hx hr
  obtain ⟨h1, h2⟩ := hk j (List.getElem?_eq_some_iff.1 hv).1
  exact ⟨u j, fun _ _ _ _ => by simp [execOp, he, Instr.loadAt, Instr.sureAddr, run_loadVar1 (P := P) (t := t) h1], (h2 v hv).2⟩
theorem o_loadNp {t : TypeId} {x : Operand} {i j sz : Nat} {xs : List (List AV)} {r cs : List AV} [TyI P t true sz] (hx : aev env x = .pp xs i j) (hr : xs[i]? = some r) (hv : (r.drop j).take sz = cs) (hn : cs.length = sz) : V1 P N (.load t x) ty env H (.agg cs) := by
  intro S a w hc
  obtain ⟨ad, u, he, _, hk⟩ := hc.pptr hx hr
  have hcs : ∀ k, k < sz → ∃ v, cs[k]? = some v ∧ r[j + k]? = some v := by
    intro k hk
    have h1 : cs[k]? = some cs[k] := List.getElem?_eq_getElem (by omega)
    exact ⟨cs[k], h1, by rw [← h1, ← hv, List.getElem?_take, if_pos hk, List.getElem?_drop]⟩
  have hcell : ∀ k, k < sz → w.cell? ((ad.add j).add k) = some ((fun k => u (j + k)) k) := by
    intro k hk'
    obtain ⟨v, _, h2⟩ := hcs k hk'
    rw [add_add]
    exact (hk (j + k) (List.getElem?_eq_some_iff.1 h2).1).1
  refine ⟨_, fun _ _ _ _ => by simp [execOp, he, Instr.loadAt, Instr.sureAddr, run_loadVarN (P := P) (t := t) hcell]; rfl, ?_⟩
  refine .agg (by simp [hn]) (fun k v hk' => ?_) (fun k v u' hk' hu => ?_)
  · have hlt : k < sz := by rw [← hn]; exact (List.getElem?_eq_some_iff.1 hk').1
    obtain ⟨v', h1, h2⟩ := hcs k hlt
    rw [hk'] at h1
    obtain rfl := Option.some.inj h1
    exact ((hk (j + k) (List.getElem?_eq_some_iff.1 h2).1).2 v h2).1
  · have hlt : k < sz := by rw [← hn]; exact (List.getElem?_eq_some_iff.1 hk').1
    obtain ⟨v', h1, h2⟩ := hcs k hlt
    rw [hk'] at h1
    obtain rfl := Option.some.inj h1
    have : u' = u (j + k) := by simpa [hlt] using hu.symm
    rw [this]
    exact ((hk (j + k) (List.getElem?_eq_some_iff.1 h2).1).2 v h2).2

theorem run_storeVar {t : TypeId} {agg : Bool} {sz : Nat} [TyI P t agg sz] {w : World} {b o : Nat} {arr : Array Value} {et : TypeId} {v : Value} (hb : w.heap[b]? = some (Obj.cells arr et (0, 0))) (hn : v.cells.size = sz) (hfit : o + sz ≤ arr.size) (h1 : ∀ x ∈ v.cells.toList, x.oneCell' = true) :
    (storeVar t ⟨b, o, none⟩ v).run P w = .ok () (w.setRow b (arr.toList.take o ++ v.cells.toList ++ arr.toList.drop (o + sz)).toArray) := by
  have hst := run_storeCells_at P b o et v.cells.toList 0 arr w hb (by simp [hn]; omega) h1
  simp only [Nat.add_zero, Array.length_toList, hn] at hst
  unfold storeVar
  simp only [Sem.run_bind, run_sz (P := P) (t := t), Result.andThen_ok, hn, ne_eq, not_true_eq_false, if_false, hst]

/-- A cell, or a struct, is written into the call's own memory. -/
theorem o_store {t : TypeId} {x y : Operand} {id i j sz : Nat} {agg : Bool} {o : AObj} {r : List AV} {v : AV} [TyI P t agg sz] (hx : aev env x = .pt id o.gen i j) (hid : H[id]? = some o) (hr : o.rows[i]? = some r)
    (hy : aev env y = v) (hc : v.cellish = true) (hn : v.cells.length = sz) (hj : j + sz ≤ o.sz) :
    V2 P N (.store t x y) ty env H .junk (H.set id { o with rows := o.rows.set i (r.take j ++ v.cells ++ r.drop (j + sz)) }) := by
  intro dst pos after guard S a w hcr next Q hnext _
  obtain ⟨s, b, arr, et, hs, hp, he, hb, hrow⟩ := hcr.ptr hx hid
  have hvr := hcr.ev y
  rw [hy] at hvr
  obtain ⟨hl, h1, hcv⟩ := hvr.cells hc
  have hrl := (hrow.2 i r hr).1
  have hi : i < o.rows.length := (List.getElem?_eq_some_iff.1 hr).1
  have hfit : i * o.sz + j + sz ≤ arr.size := by
    have h2 : i * o.sz + o.sz ≤ o.rows.length * o.sz := by
      rw [← Nat.succ_mul]
      exact Nat.mul_le_mul_right _ hi
    have := hrow.1
    omega
  have hsz : (arr.toList.take (i * o.sz + j) ++ (a.eval y).cells.toList ++ arr.toList.drop (i * o.sz + j + sz)).toArray.size = arr.size := by
    simp [← hl, hn]
    omega
  have hget : ∀ k, (arr.toList.take (i * o.sz + j) ++ (a.eval y).cells.toList ++ arr.toList.drop (i * o.sz + j + sz)).toArray[k]? =
      if k < i * o.sz + j then arr[k]? else if k < i * o.sz + j + sz then (a.eval y).cells[k - (i * o.sz + j)]? else arr[k]? := by
    intro k
    have hlen1 : (arr.toList.take (i * o.sz + j)).length = i * o.sz + j := by simp; omega
    have hlen2 : (a.eval y).cells.toList.length = sz := by simp [← hl, hn]
    rw [List.getElem?_toArray, List.append_assoc]
    by_cases h1 : k < i * o.sz + j
    · rw [if_pos h1, List.getElem?_append_left (by omega), List.getElem?_take, if_pos h1]; simp
    · rw [if_neg h1, List.getElem?_append_right (by omega), hlen1]
      by_cases h2 : k < i * o.sz + j + sz
      · rw [if_pos h2, List.getElem?_append_left (by omega)]; simp
      · rw [if_neg h2, List.getElem?_append_right (by omega), hlen2, List.getElem?_drop]
        simp only [Array.getElem?_toList]
        congr 1
        omega
  have hrow' : RowOK (own S) S w o.sz (arr.toList.take (i * o.sz + j) ++ (a.eval y).cells.toList ++ arr.toList.drop (i * o.sz + j + sz)).toArray (o.rows.set i (r.take j ++ v.cells ++ r.drop (j + sz))) := by
    refine ⟨by rw [hsz]; simpa using hrow.1, fun i' r' hr' => ?_⟩
    by_cases e : i = i'
    · subst e
      rw [List.getElem?_set_self hi] at hr'
      obtain rfl := Option.some.inj hr'
      refine ⟨by simp [hn, hrl]; omega, fun k x hk => ?_⟩
      have hlen1 : (r.take j).length = j := by simp; omega
      rw [List.append_assoc] at hk
      rw [hget]
      by_cases h1 : k < j
      · rw [List.getElem?_append_left (by omega), List.getElem?_take, if_pos h1] at hk
        rw [if_pos (by omega)]
        exact (hrow.2 i r hr).2 k x hk
      · rw [List.getElem?_append_right (by omega), hlen1] at hk
        rw [if_neg (by omega)]
        by_cases h2 : k < j + sz
        · rw [List.getElem?_append_left (by omega)] at hk
          rw [if_pos (by omega), show i * o.sz + k - (i * o.sz + j) = k - j by omega]
          exact hcv (k - j) x hk
        · rw [List.getElem?_append_right (by omega), hn, List.getElem?_drop] at hk
          rw [if_neg (by omega)]
          rw [show j + sz + (k - j - sz) = k by omega] at hk
          exact (hrow.2 i r hr).2 k x hk
    · rw [List.getElem?_set_ne e] at hr'
      refine ⟨(hrow.2 i' r' hr').1, fun k x hk => ?_⟩
      have hkl : k < o.sz := by rw [← (hrow.2 i' r' hr').1]; exact (List.getElem?_eq_some_iff.1 hk).1
      rw [hget]
      rcases Nat.lt_or_gt_of_ne e with h | h
      · have : i * o.sz + o.sz ≤ i' * o.sz := by rw [← Nat.succ_mul]; exact Nat.mul_le_mul_right _ h
        rw [if_neg (by omega), if_neg (by omega)]
        exact (hrow.2 i' r' hr').2 k x hk
      · have : i' * o.sz + o.sz ≤ i * o.sz := by rw [← Nat.succ_mul]; exact Nat.mul_le_mul_right _ h
        rw [if_pos (by omega)]
        exact (hrow.2 i' r' hr').2 k x hk
  obtain ⟨hh, hx'⟩ := hcr.heap.write hid hs hp hb hsz hrow'
  have hrun : (execOp a.eval ⟨dst, .store t x y, ty, pos, after, guard⟩).run P w = .ok .skip (w.setRow b (arr.toList.take (i * o.sz + j) ++ (a.eval y).cells.toList ++ arr.toList.drop (i * o.sz + j + sz)).toArray) := by
    simp only [execOp, he, Instr.storeAt, Instr.sureAddr, Sem.run_bind, Sem.run_pure, Result.andThen_ok, run_storeVar (P := P) (t := t) hb (by rw [← hl]; exact hn) hfit h1]
  unfold Oper.wp
  rw [hrun]
  exact hnext .junk undef _ S _ ⟨rfl, rfl⟩ hh hx' .junk
end
end Go.Av

/-
  THE RULES OF ADDRESSES, PARTS, CUTS, LENGTHS, TEXTS, AGGREGATES, FUNCTION VALUES AND INTERFACE VALUES.
-/
namespace Go.Av

section
variable {P : Program} {N : Nat} {env : Env} {H : Heap} {ty : TypeId}

/-! #### nil checks -/
theorem o_nilCheck {x : Operand} {id i j : Nat} {o : AObj} (hx : aev env x = .pt id o.gen i j) (hid : H[id]? = some o) : V1 P N (.nilCheck x) ty env H (.pt id o.gen i j) := by
  intro S a w hc
  obtain ⟨s, b, arr, _, hs, hpl, he, hb, hrow⟩ := hc.ptr hx hid
  have hv := hc.ev x
  rw [hx] at hv
  exact ⟨a.eval x, fun _ _ _ _ => by simp [execOp, he], hv⟩
theorem o_nilCheckp {x : Operand} {xs : List (List AV)} {i j : Nat} (hx : aev env x = .pp xs i j) : V1 P N (.nilCheck x) ty env H (.pp xs i j) := by
  intro S a w hc
  have hv := hc.ev x
  rw [hx] at hv
  generalize he : a.eval x = u at hv
  refine ⟨u, fun _ _ _ _ => ?_, hv⟩
  cases hv
  simp [execOp, he]

/-! #### Addresses of parts -/
theorem run_fieldPlace {s ft : TypeId} {f off sz : Nat} {agg : Bool} [hf : FldI P s f off ft] [TyI P ft agg sz] (h0 : sz ≠ 0) (ad : Addr) (w : World) :
    (Instr.fieldAt s (.pointer (some ad)) f).run P w = .ok (.pointer (some (ad.add off))) w := by
  have hu := hf.ud
  cases hd : P.underlying s with
  | none => simp [hd] at hu
  | some d =>
    rw [hd] at hu
    cases d <;> simp only [] at hu <;> try (cases hu; done)
    rename_i fs
    cases hfd : fs[f]? with
    | none => simp [hfd] at hu
    | some fd =>
      rw [hfd] at hu
      simp at hu
      obtain ⟨h1, h2⟩ := hu
      subst h1; subst h2
      simp [Instr.fieldAt, run_und hd, hfd, Instr.sureAddr, fieldPlace, run_sz (P := P) (t := fd.type) (agg := agg) (sz := sz), h0]
theorem o_fieldAddr {s ft : TypeId} {x : Operand} {f off id i j sz : Nat} {agg : Bool} {o : AObj} [FldI P s f off ft] [TyI P ft agg sz] (h0 : sz ≠ 0) (hx : aev env x = .pt id o.gen i j) (hid : H[id]? = some o) : V1 P N (.fieldAddr s x f) ty env H (.pt id o.gen i (j + off)) := by
  intro S a w hc
  obtain ⟨s', b, arr, _, hs, hpl, he, hb, hrow⟩ := hc.ptr hx hid
  have ok := hc.heap.obj id o s' hid hs
  refine ⟨.pointer (some ⟨b, i * o.sz + (j + off), none⟩), fun _ _ _ _ => ?_, .pt s' hs (by rw [ok.gen]; exact Nat.le_refl _) rfl fun _ => ⟨b, hpl, by rw [ok.sz]⟩⟩
  simp [execOp, he, run_fieldPlace (P := P) (s := s) (f := f) (off := off) (ft := ft) (sz := sz) (agg := agg) h0, add_none, Nat.add_assoc]
theorem o_fieldAddrp {s ft : TypeId} {x : Operand} {f off i j sz : Nat} {agg : Bool} {xs : List (List AV)} [FldI P s f off ft] [TyI P ft agg sz] (h0 : sz ≠ 0) (hx : aev env x = .pp xs i j) : V1 P N (.fieldAddr s x f) ty env H (.pp xs i (j + off)) := by
  intro S a w hc
  have hv := hc.ev x
  rw [hx] at hv
  generalize he : a.eval x = u at hv
  cases hv with
  | pp base z u hb hs hm hl hv =>
    refine ⟨.pointer (some (base.add (i * z + (j + off)))), fun _ _ _ _ => ?_, .pp base z u hb hs hm hl hv⟩
    simp [execOp, he, run_fieldPlace (P := P) (s := s) (f := f) (off := off) (ft := ft) (sz := sz) (agg := agg) h0, add_add, Nat.add_assoc]

theorem run_indexSlice {t e : TypeId} {sz : Nat} {agg : Bool} [hs : SlI P t e] [TyI P e agg sz] {k : IntKind} {n : Int} {base : Addr} {len cap : Nat} (h0 : 0 ≤ n) (h1 : n < len) (w : World) :
    (Instr.indexAt t (.slice (some base) len cap) (.int k n)).run P w = .ok (.pointer (some (base.add (n.toNat * sz)))) w := by
  simp [Instr.indexAt, asIntOf, run_und hs.ud, h0, h1, run_sz (P := P) (t := e) (agg := agg) (sz := sz)]
theorem run_indexArr {t e : TypeId} {sz m : Nat} {agg : Bool} [hs : ArI P t m e] [TyI P e agg sz] {k : IntKind} {n : Int} {base : Addr} (h0 : 0 ≤ n) (h1 : n < m) (w : World) :
    (Instr.indexAt t (.pointer (some base)) (.int k n)).run P w = .ok (.pointer (some (base.add (n.toNat * sz)))) w := by
  simp [Instr.indexAt, asIntOf, run_und hs.ud, Instr.sureAddr, h0, h1, run_sz (P := P) (t := e) (agg := agg) (sz := sz)]

/-- What a slice of the call's own is. -/
theorem CR.slc {S : List Slot} {a : Act} {w : World} (hc : CR N env H S a w) {x : Operand} {id off len cap : Nat} {o : AObj} (hx : aev env x = .sl id o.gen off len cap) (hid : H[id]? = some o) :
    ∃ s c, S[id]? = some s ∧ ObjOK S w o s ∧ cap ≤ c ∧ len ≤ c ∧ ((c = 0 ∧ ∃ ad, a.eval x = .slice ad 0 0) ∨
      ∃ b arr ty, s.place = some b ∧ a.eval x = .slice (some ⟨b, off * o.sz, none⟩) len c ∧ w.heap[b]? = some (Obj.cells arr ty (0, 0)) ∧ (off + c) * o.sz ≤ arr.size ∧ RowOK (own S) S w o.sz arr o.rows) := by
  have hv := hc.ev x
  rw [hx] at hv
  obtain ⟨s, hs, ok⟩ := hc.heap.slot hid
  generalize a.eval x = u at hv
  cases hv with
  | sl s' hs' hg h1 h =>
    rw [hs] at hs'
    obtain rfl := Option.some.inj hs'
    obtain ⟨c, hc1, hc2, h⟩ := h ok.gen.symm
    refine ⟨s, c, hs, ok, hc1, hc2, ?_⟩
    rcases h with h | ⟨b, arr, ty, hp, hu, hb, hsz⟩
    · exact .inl h
    · obtain ⟨arr', ty', h1, h2⟩ := ok.row hp
      rw [hb] at h1
      injection h1 with h1
      injection h1 with h1 h1'
      subst h1
      exact .inr ⟨b, arr, ty, hp, by rw [ok.sz]; exact hu, hb, by rw [ok.sz]; exact hsz, h2⟩

theorem o_indexAddr {t e : TypeId} {x y : Operand} {id off len cap : Nat} {k : IntKind} {n : Int} {sz : Nat} {agg : Bool} {o : AObj} [SlI P t e] [TyI P e agg sz] (hx : aev env x = .sl id o.gen off len cap) (hid : H[id]? = some o) (hsz : o.sz = sz)
    (hy : aev env y = .int k n) (h0 : 0 ≤ n) (h1 : n < len) : V1 P N (.indexAddr t x y) ty env H (.pt id o.gen (off + n.toNat) 0) := by
  intro S a w hc
  obtain ⟨s, c, hs, ok, _, hlc, h⟩ := hc.slc hx hid
  rcases h with ⟨h, _⟩ | ⟨b, arr, et, hp, he, hb, hfit, hrow⟩
  · omega
  refine ⟨.pointer (some ⟨b, (off + n.toNat) * o.sz + 0, none⟩), fun _ _ _ _ => ?_, .pt s hs (by rw [ok.gen]; exact Nat.le_refl _) rfl fun _ => ⟨b, hp, by rw [ok.sz]⟩⟩
  simp [execOp, he, ev_int hc hy, run_indexSlice (P := P) (t := t) (e := e) (sz := sz) (agg := agg) h0 h1, add_none, hsz, Nat.add_mul]
theorem o_indexAddrp {t e : TypeId} {x y : Operand} {xs : List (List AV)} {k : IntKind} {n : Int} {sz : Nat} {agg : Bool} {r : List AV} [SlI P t e] [TyI P e agg sz] (hx : aev env x = .pl xs)
    (hy : aev env y = .int k n) (h0 : 0 ≤ n) (hr : xs[n.toNat]? = some r) (hsz : r.length = sz) : V1 P N (.indexAddr t x y) ty env H (.pp xs n.toNat 0) := by
  intro S a w hc
  have hlt : n.toNat < xs.length := (List.getElem?_eq_some_iff.1 hr).1
  have hv := hc.ev x
  rw [hx] at hv
  generalize he : a.eval x = u at hv
  cases hv with
  | pl base z u hcap hb hs hm hl hv =>
    have hz : z = sz := by rw [← hs _ r hr]; exact hsz
    obtain ⟨h1, h2, h3⟩ := hb (by intro e; simp [e] at hlt)
    subst h1
    refine ⟨.pointer (some (base.add (n.toNat * z + 0))), fun _ _ _ _ => ?_, .pp base z u ⟨h2, h3⟩ hs hm hl hv⟩
    simp [execOp, he, ev_int hc hy, run_indexSlice (P := P) (t := t) (e := e) (sz := sz) (agg := agg) h0 (show n < xs.length by omega), hz]
theorem o_indexArr {t e : TypeId} {x y : Operand} {id i j m : Nat} {k : IntKind} {n : Int} {sz : Nat} {agg : Bool} {o : AObj} [ArI P t m e] [TyI P e agg sz] (hx : aev env x = .pt id o.gen i j) (hid : H[id]? = some o)
    (hy : aev env y = .int k n) (h0 : 0 ≤ n) (h1 : n < m) : V1 P N (.indexAddr t x y) ty env H (.pt id o.gen i (j + n.toNat * sz)) := by
  intro S a w hc
  obtain ⟨s', b, arr, _, hs, hpl, he, hb, hrow⟩ := hc.ptr hx hid
  have ok := hc.heap.obj id o s' hid hs
  refine ⟨.pointer (some ⟨b, i * o.sz + (j + n.toNat * sz), none⟩), fun _ _ _ _ => ?_, .pt s' hs (by rw [ok.gen]; exact Nat.le_refl _) rfl fun _ => ⟨b, hpl, by rw [ok.sz]⟩⟩
  simp [execOp, he, ev_int hc hy, run_indexArr (P := P) (t := t) (e := e) (sz := sz) (agg := agg) h0 h1, add_none, Nat.add_assoc]
theorem o_indexArrp {t e : TypeId} {x y : Operand} {xs : List (List AV)} {i j m : Nat} {k : IntKind} {n : Int} {sz : Nat} {agg : Bool} [ArI P t m e] [TyI P e agg sz] (hx : aev env x = .pp xs i j)
    (hy : aev env y = .int k n) (h0 : 0 ≤ n) (h1 : n < m) : V1 P N (.indexAddr t x y) ty env H (.pp xs i (j + n.toNat * sz)) := by
  intro S a w hc
  have hv := hc.ev x
  rw [hx] at hv
  generalize he : a.eval x = u at hv
  cases hv with
  | pp base z u hb hs hm hl hv =>
    refine ⟨.pointer (some (base.add (i * z + (j + n.toNat * sz)))), fun _ _ _ _ => ?_, .pp base z u hb hs hm hl hv⟩
    simp [execOp, he, ev_int hc hy, run_indexArr (P := P) (t := t) (e := e) (sz := sz) (agg := agg) h0 h1, add_add, Nat.add_assoc]

/-! #### Parts of values -/
theorem ev_agg {S : List Slot} {a : Act} {w : World} (hc : CR N env H S a w) {x : Operand} {cs : List AV} (h : aev env x = .agg cs) : ∃ vs, a.eval x = .agg vs ∧ cs.length = vs.size ∧ (∀ (j : Nat) (v : AV), cs[j]? = some v → v.leaf = true) ∧ ∀ (j : Nat) (v : AV) (u : Value), cs[j]? = some v → vs[j]? = some u → VR (own S) w S v u := by
  have := hc.ev x
  rw [h] at this
  generalize a.eval x = u at this
  cases this with
  | agg hn hl h => exact ⟨_, rfl, hn, hl, h⟩
theorem run_part1 {t : TypeId} {sz : Nat} [TyI P t false sz] {cs : Array Value} {off : Nat} {u : Value} (h : cs[off]? = some u) (w : World) : (part t cs off).run P w = .ok u w := by
  simp [part, run_isAgg (P := P) (t := t) (agg := false), h]
theorem run_partN {t : TypeId} {sz : Nat} [TyI P t true sz] {cs : Array Value} {off : Nat} (w : World) : (part t cs off).run P w = .ok (.agg (cs.extract off (off + sz))) w := by
  simp [part, run_isAgg (P := P) (t := t) (agg := true), run_sz (P := P) (t := t) (agg := true) (sz := sz)]

theorem part_agg {S : List Slot} {w : World} {cs ds : List AV} {vs : Array Value} {off sz : Nat} (hn : cs.length = vs.size) (hl : ∀ (j : Nat) (v : AV), cs[j]? = some v → v.leaf = true)
    (h : ∀ (j : Nat) (v : AV) (u : Value), cs[j]? = some v → vs[j]? = some u → VR (own S) w S v u) (hd : (cs.drop off).take sz = ds) (hle : ds.length = sz) : VR (own S) w S (.agg ds) (.agg (vs.extract off (off + sz))) := by
  have hget : ∀ j v, ds[j]? = some v → j < sz ∧ cs[off + j]? = some v := by
    intro j v hv
    have hlt : j < sz := by rw [← hle]; exact (List.getElem?_eq_some_iff.1 hv).1
    refine ⟨hlt, ?_⟩
    rw [← hd, List.getElem?_take, if_pos hlt, List.getElem?_drop] at hv
    exact hv
  have hfit : off + sz ≤ cs.length ∨ sz = 0 := by
    rw [← hd] at hle
    simp at hle
    omega
  refine .agg ?_ (fun j v hv => hl _ v (hget j v hv).2) (fun j v u hv hu => ?_)
  · simp only [Array.size_extract]; omega
  · obtain ⟨hlt, h2⟩ := hget j v hv
    have hu' : vs[off + j]? = some u := by
      rw [Array.getElem?_extract] at hu
      split at hu
      · exact hu
      · cases hu
    exact h _ v u h2 hu'

theorem run_field {s ft : TypeId} {f off : Nat} [hf : FldI P s f off ft] {cs : Array Value} (w : World) : (Instr.field s (.agg cs) f).run P w = (part ft cs off).run P w := by
  have hu := hf.ud
  cases hd : P.underlying s with
  | none => simp [hd] at hu
  | some d =>
    rw [hd] at hu
    cases d <;> simp only [] at hu <;> try (cases hu; done)
    rename_i fs
    cases hfd : fs[f]? with
    | none => simp [hfd] at hu
    | some fd =>
      rw [hfd] at hu
      simp at hu
      obtain ⟨h1, h2⟩ := hu
      subst h1; subst h2
      simp [Instr.field, run_und hd, hfd, asAgg]
theorem o_field1 {s ft : TypeId} {x : Operand} {f off sz : Nat} {cs : List AV} {v : AV} [FldI P s f off ft] [TyI P ft false sz] (hx : aev env x = .agg cs) (hv : cs[off]? = some v) : V1 P N (.field s x f) ty env H v := by
  intro S a w hc
  obtain ⟨vs, he, hn, hl, h⟩ := ev_agg hc hx
  have hlt : off < vs.size := by rw [← hn]; exact (List.getElem?_eq_some_iff.1 hv).1
  exact ⟨vs[off], fun _ _ _ _ => by simp [execOp, he, run_field (P := P) (s := s) (f := f) (off := off) (ft := ft), run_part1 (P := P) (t := ft) (Array.getElem?_eq_getElem hlt)], h off v _ hv (Array.getElem?_eq_getElem hlt)⟩
theorem o_fieldN {s ft : TypeId} {x : Operand} {f off sz : Nat} {cs ds : List AV} [FldI P s f off ft] [TyI P ft true sz] (hx : aev env x = .agg cs) (hd : (cs.drop off).take sz = ds) (hle : ds.length = sz) : V1 P N (.field s x f) ty env H (.agg ds) := by
  intro S a w hc
  obtain ⟨vs, he, hn, hl, h⟩ := ev_agg hc hx
  exact ⟨.agg (vs.extract off (off + sz)), fun _ _ _ _ => by simp [execOp, he, run_field (P := P) (s := s) (f := f) (off := off) (ft := ft), run_partN (P := P) (t := ft)], part_agg hn hl h hd hle⟩
theorem o_index1 {t e : TypeId} {x y : Operand} {m sz : Nat} {k : IntKind} {n : Int} {cs : List AV} {v : AV} [hs : ArI P t m e] [TyI P e false sz] (hx : aev env x = .agg cs) (hy : aev env y = .int k n) (h0 : 0 ≤ n) (h1 : n < m) (hv : cs[n.toNat * sz]? = some v) : V1 P N (.index t x y) ty env H v := by
  intro S a w hc
  obtain ⟨vs, he, hn, hl, h⟩ := ev_agg hc hx
  have hlt : n.toNat * sz < vs.size := by rw [← hn]; exact (List.getElem?_eq_some_iff.1 hv).1
  exact ⟨vs[n.toNat * sz], fun _ _ _ _ => by
    simp [execOp, he, ev_int hc hy, Instr.index, asIntOf, run_und hs.ud, h0, h1, run_sz (P := P) (t := e) (agg := false) (sz := sz), run_part1 (P := P) (t := e) (Array.getElem?_eq_getElem hlt)], h _ v _ hv (Array.getElem?_eq_getElem hlt)⟩
theorem o_indexStr {t : TypeId} {x y : Operand} {k : IntKind} {n : Int} {s : ByteArray} {c : UInt8} [hs : UdI P t .string] (hx : aev env x = .str s) (hy : aev env y = .int k n) (h0 : 0 ≤ n) (hv : s[n.toNat]? = some c) : V1 P N (.index t x y) ty env H (.int .u8 (c.toNat : Int)) := by
  intro S a w hc
  exact ⟨.int .u8 (c.toNat : Int), fun _ _ _ _ => by
    simp [execOp, ev_str hc hx, ev_int hc hy, Instr.index, asIntOf, run_und hs.ud, h0, hv], .int⟩

/-! #### Cuts -/
/-- A bound of a cut: what is not given is d. -/
def Bd (env : Env) (x : Option Operand) (d n : Nat) : Prop := match x with
  | none => n = d
  | some y => ∃ k m, aev env y = .int k m ∧ m = (n : Int)
theorem Bd.none {d : Nat} : Bd env none d d := rfl
theorem Bd.some {y : Operand} {k : IntKind} {m : Int} {d n : Nat} (h : aev env y = .int k m) (e : m = (n : Int)) : Bd env (some y) d n := ⟨k, m, h, e⟩

theorem Bd.run {S : List Slot} {a : Act} {w : World} (hc : CR N env H S a w) {x : Option Operand} {d n : Nat} (h : Bd env x d n) : (x = Option.none ∧ n = d) ∨ ∃ y k, x = Option.some y ∧ a.eval y = .int k (n : Int) := by
  cases x with
  | none => exact .inl ⟨rfl, h⟩
  | some y =>
    obtain ⟨k, m, h1, h2⟩ := h
    subst h2
    exact .inr ⟨y, k, rfl, ev_int hc h1⟩

theorem run_sliceBounds2 {S : List Slot} {a : Act} {w : World} (hc : CR N env H S a w) {lo hi : Option Operand} {l h : Nat} (isS : Bool) {len cap : Nat} (hl : Bd env lo 0 l) (hh : Bd env hi len h) (h1 : l ≤ h) (h2 : h ≤ cap) :
    (Instr.sliceBounds isS len cap (lo.map a.eval) (hi.map a.eval) Option.none).run P w = .ok (l, h, cap) w := by
  rcases hl.run hc with ⟨rfl, rfl⟩ | ⟨y, k, rfl, e⟩ <;> rcases hh.run hc with ⟨rfl, rfl⟩ | ⟨y', k', rfl, e'⟩
  · simp [Instr.sliceBounds]
  · simp [Instr.sliceBounds, e', Instr.sliceBound, asIntOf, h2]
  · simp [Instr.sliceBounds, e, Instr.sliceBound, asIntOf, h1]
  · simp [Instr.sliceBounds, e, e', Instr.sliceBound, asIntOf, h1, h2]
theorem run_sliceBounds3 {S : List Slot} {a : Act} {w : World} (hc : CR N env H S a w) {lo : Option Operand} {hi mx : Operand} {l h m : Nat} {k k' : IntKind} (isS : Bool) {len cap : Nat} (hl : Bd env lo 0 l) (hh : aev env hi = .int k (h : Int)) (hm : aev env mx = .int k' (m : Int)) (h1 : l ≤ h) (h2 : h ≤ m) (h3 : m ≤ cap) :
    (Instr.sliceBounds isS len cap (lo.map a.eval) (Option.some (a.eval hi)) (Option.some (a.eval mx))).run P w = .ok (l, h, m) w := by
  rcases hl.run hc with ⟨rfl, rfl⟩ | ⟨y, k, rfl, e⟩
  · simp [Instr.sliceBounds, ev_int hc hh, ev_int hc hm, Instr.sliceBound, asIntOf, h2, h3]
  · simp [Instr.sliceBounds, e, ev_int hc hh, ev_int hc hm, Instr.sliceBound, asIntOf, h1, h2, h3]

theorem o_sliceStr {t : TypeId} {x : Operand} {lo hi : Option Operand} {s : ByteArray} {l h : Nat} [hu : UdI P t .string] (hx : aev env x = .str s) (hl : Bd env lo 0 l) (hh : Bd env hi s.size h) (h1 : l ≤ h) (h2 : h ≤ s.size) :
    V1 P N (.slice t x lo hi Option.none) ty env H (.str (s.extract l h)) := by
  intro S a w hc
  have hb := run_sliceBounds2 (P := P) hc false hl hh h1 h2
  refine ⟨.string (s.extract l h), fun _ _ _ _ => ?_, .str⟩
  simp [execOp, ev_str hc hx, Instr.sliceAt, Instr.slice, run_und hu.ud, hb]

theorem VR.cut {O : Nat → Prop} {w : World} {S : List Slot} {xs : List (List AV)} {a : Option Addr} {c sz l h m : Nat} (hv : VR O w S (.pl xs) (.slice a xs.length c)) (h1 : l ≤ h) (h2 : h ≤ xs.length) (h3 : h ≤ m) (hsz : ∀ r ∈ xs, r.length = sz) :
    VR O w S (.pl ((xs.drop l).take (h - l))) (.slice (if m = l then a else a.map (·.add (l * sz))) (h - l) (m - l)) := by
  have hlen : ((xs.drop l).take (h - l)).length = h - l := by simp; omega
  have hget : ∀ i r, ((xs.drop l).take (h - l))[i]? = some r → xs[l + i]? = some r ∧ i < h - l := by
    intro i r hr
    rw [List.getElem?_take] at hr
    split at hr
    · rename_i hi
      rw [List.getElem?_drop] at hr
      exact ⟨hr, hi⟩
    · cases hr
  generalize hys : (xs.drop l).take (h - l) = ys at *
  rw [← hlen]
  cases hv with
  | pl base z u hcap hb hs hm hl hv =>
    refine .pl (base.add (l * sz)) sz (fun i j => u (l + i) j) (by omega) (fun hne => ?_) (fun i r hr => hsz r (List.mem_of_getElem? (hget i r hr).1)) (fun i hi j hj => ?_) (fun i j r v hr hv' => hl (l + i) j r v (hget i r hr).1 hv') (fun i j r v hr hv' => hv (l + i) j r v (hget i r hr).1 hv')
    · have hpos : 0 < ys.length := List.length_pos_iff.2 hne
      have hne' : xs ≠ [] := by intro e; subst e; simp at h2; omega
      obtain ⟨k1, k2, k3⟩ := hb hne'
      subst k1
      rw [if_neg (by omega)]
      exact ⟨rfl, by rw [add_block]; exact k2, by rw [add_block]; exact k3⟩
    · have hlt : l + i < xs.length := by omega
      have hz : z = sz := by rw [← hs (l + i) _ (List.getElem?_eq_getElem hlt)]; exact hsz _ (List.getElem_mem hlt)
      subst hz
      have := hm (l + i) hlt j hj
      rw [add_add, ← Nat.add_assoc, ← Nat.add_mul]
      exact this

theorem o_slicep {t e : TypeId} {x : Operand} {lo hi : Option Operand} {xs : List (List AV)} {l h sz : Nat} {agg : Bool} [hu : SlI P t e] [TyI P e agg sz] (hx : aev env x = .pl xs) (hl : Bd env lo 0 l) (hh : Bd env hi xs.length h) (h1 : l ≤ h) (h2 : h ≤ xs.length) (hsz : ∀ r ∈ xs, r.length = sz) :
    V1 P N (.slice t x lo hi Option.none) ty env H (.pl ((xs.drop l).take (h - l))) := by
  intro S a w hc
  have hv := hc.ev x
  rw [hx] at hv
  generalize he : a.eval x = u at hv
  have hv0 := hv
  cases hv with
  | @pl _ _ ad c base z u hcap hb hs hm hl' hv =>
    have hb' := run_sliceBounds2 (P := P) hc true (cap := c) hl hh h1 (by omega)
    refine ⟨.slice (if c = l then ad else ad.map (·.add (l * sz))) (h - l) (c - l), fun _ _ _ _ => ?_, VR.cut hv0 h1 h2 (by omega) hsz⟩
    simp [execOp, he, Instr.sliceAt, Instr.slice, run_und hu.ud, hb', run_sz (P := P) (t := e) (agg := agg) (sz := sz)]
theorem o_slicep3 {t e : TypeId} {x hi mx : Operand} {lo : Option Operand} {k k' : IntKind} {xs : List (List AV)} {l h m sz : Nat} {agg : Bool} [hu : SlI P t e] [TyI P e agg sz] (hx : aev env x = .pl xs) (hl : Bd env lo 0 l) (hh : aev env hi = .int k (h : Int)) (hm : aev env mx = .int k' (m : Int)) (h1 : l ≤ h) (h2 : h ≤ m) (h3 : m ≤ xs.length) (hsz : ∀ r ∈ xs, r.length = sz) :
    V1 P N (.slice t x lo (Option.some hi) (Option.some mx)) ty env H (.pl ((xs.drop l).take (h - l))) := by
  intro S a w hc
  have hv := hc.ev x
  rw [hx] at hv
  generalize he : a.eval x = u at hv
  have hv0 := hv
  cases hv with
  | @pl _ _ ad c base z u hcap hb hs hm' hl' hv =>
    have hb' := run_sliceBounds3 (P := P) hc true (len := xs.length) (cap := c) hl hh hm h1 h2 (by omega)
    refine ⟨.slice (if m = l then ad else ad.map (·.add (l * sz))) (h - l) (m - l), fun _ _ _ _ => ?_, VR.cut hv0 h1 (by omega) h2 hsz⟩
    simp [execOp, he, Instr.sliceAt, Instr.slice, run_und hu.ud, hb', run_sz (P := P) (t := e) (agg := agg) (sz := sz)]

/-- The cut of nothing, with no room: x[:0:0]. -/
def AV.isSl : AV → Bool
  | .pl _ | .nsl => true
  | _ => false
theorem o_slice00 {t e : TypeId} {x hi mx : Operand} {lo : Option Operand} {k k' : IntKind} {v : AV} {sz : Nat} {agg : Bool} [hu : SlI P t e] [TyI P e agg sz] (hx : aev env x = v) (hsl : v.isSl = true) (hl : Bd env lo 0 0) (hh : aev env hi = .int k 0) (hm : aev env mx = .int k' 0) :
    V1 P N (.slice t x lo (Option.some hi) (Option.some mx)) ty env H .nsl := by
  intro S a w hc
  have hv := hc.ev x
  rw [hx] at hv
  have hu' : ∃ ad len c, a.eval x = .slice ad len c := by
    generalize a.eval x = u at hv
    cases hv <;> first | exact ⟨_, _, _, rfl⟩ | (simp [AV.isSl] at hsl)
  obtain ⟨ad, len, c, he⟩ := hu'
  have hb' := run_sliceBounds3 (P := P) hc true (len := len) (cap := c) (h := 0) (m := 0) hl hh hm (Nat.le_refl _) (Nat.le_refl _) (Nat.zero_le _)
  refine ⟨.slice ad 0 0, fun _ _ _ _ => ?_, .nsl⟩
  simp [execOp, he, Instr.sliceAt, Instr.slice, run_und hu.ud, hb', run_sz (P := P) (t := e) (agg := agg) (sz := sz)]
theorem o_slice00s {t e : TypeId} {x hi mx : Operand} {lo : Option Operand} {k k' : IntKind} {id off len cap sz : Nat} {agg : Bool} {o : AObj} [hu : SlI P t e] [TyI P e agg sz] (hx : aev env x = .sl id o.gen off len cap) (hid : H[id]? = some o) (hl : Bd env lo 0 0) (hh : aev env hi = .int k 0) (hm : aev env mx = .int k' 0) :
    V1 P N (.slice t x lo (Option.some hi) (Option.some mx)) ty env H .nsl := by
  intro S a w hc
  obtain ⟨s, c, hs, ok, _, hlc, h⟩ := hc.slc hx hid
  have hu' : ∃ ad len c, a.eval x = .slice ad len c := by
    rcases h with ⟨_, ad, h⟩ | ⟨b, arr, et, hp, he, hb, hfit, hrow⟩
    · exact ⟨_, _, _, h⟩
    · exact ⟨_, _, _, he⟩
  obtain ⟨ad, len, c, he⟩ := hu'
  have hb' := run_sliceBounds3 (P := P) hc true (len := len) (cap := c) (h := 0) (m := 0) hl hh hm (Nat.le_refl _) (Nat.le_refl _) (Nat.zero_le _)
  refine ⟨.slice ad 0 0, fun _ _ _ _ => ?_, .nsl⟩
  simp [execOp, he, Instr.sliceAt, Instr.slice, run_und hu.ud, hb', run_sz (P := P) (t := e) (agg := agg) (sz := sz)]

theorem o_slices {t e : TypeId} {x : Operand} {lo hi : Option Operand} {id off len cap l h sz : Nat} {agg : Bool} {o : AObj} [hu : SlI P t e] [TyI P e agg sz] (hx : aev env x = .sl id o.gen off len cap) (hid : H[id]? = some o) (hsz : o.sz = sz) (hl : Bd env lo 0 l) (hh : Bd env hi len h) (h1 : l ≤ h) (h2 : h ≤ max len cap) :
    V1 P N (.slice t x lo hi Option.none) ty env H (.sl id o.gen (off + l) (h - l) (cap - l)) := by
  intro S a w hc
  obtain ⟨s, c, hs, ok, hcc, hlc, hh2⟩ := hc.slc hx hid
  rcases hh2 with ⟨h0, ad, he⟩ | ⟨b, arr, et, hp, he, hb, hfit, hrow⟩
  · obtain rfl : l = 0 := by omega
    obtain rfl : h = 0 := by omega
    have el : len = 0 := by omega
    subst el
    have hb' := run_sliceBounds2 (P := P) hc true (cap := 0) hl hh h1 (by omega)
    refine ⟨.slice ad 0 0, fun _ _ _ _ => ?_, .sl s hs (by rw [ok.gen]; exact Nat.le_refl _) rfl fun _ => ⟨0, by omega, by omega, .inl ⟨rfl, ad, rfl⟩⟩⟩
    simp [execOp, he, Instr.sliceAt, Instr.slice, run_und hu.ud, hb', run_sz (P := P) (t := e) (agg := agg) (sz := sz)]
  · have hb' := run_sliceBounds2 (P := P) hc true (cap := c) hl hh h1 (by omega)
    refine ⟨.slice (if c = l then some ⟨b, off * o.sz, none⟩ else some ⟨b, (off + l) * o.sz, none⟩) (h - l) (c - l), fun _ _ _ _ => ?_, .sl s hs (by rw [ok.gen]; exact Nat.le_refl _) rfl fun _ => ⟨c - l, by omega, by omega, ?_⟩⟩
    · have e1 : (⟨b, off * o.sz, none⟩ : Addr).add (l * sz) = ⟨b, (off + l) * o.sz, none⟩ := by rw [add_none, hsz, Nat.add_mul]
      simp [execOp, he, Instr.sliceAt, Instr.slice, run_und hu.ud, hb', run_sz (P := P) (t := e) (agg := agg) (sz := sz), e1]
    · by_cases e1 : c = l
      · left
        refine ⟨by omega, some ⟨b, off * o.sz, none⟩, ?_⟩
        rw [if_pos e1, show h - l = 0 by omega, show c - l = 0 by omega]
      · right
        refine ⟨b, arr, et, hp, by rw [if_neg e1, ok.sz], hb, ?_⟩
        rw [← ok.sz, show off + l + (c - l) = off + c by omega]
        exact hfit

/-! #### Lengths -/
theorem o_lenStr {x : Operand} {t : TypeId} {s : ByteArray} [hu : UdI P t .string] (hx : aev env x = .str s) : V1 P N (.call { callee := .builtin .len, args := #[x], argTypes := #[t] }) ty env H (.int .i64 (s.size : Int)) := by
  intro S a w hc
  refine ⟨.int .i64 s.size, fun _ _ _ _ => ?_, .int⟩
  simp [execOp, resolve, invoke, builtin, Builtin.len_, ev_str hc hx, run_und hu.ud, goInt]
theorem o_lenp {x : Operand} {t e : TypeId} {xs : List (List AV)} [hu : SlI P t e] (hx : aev env x = .pl xs) : V1 P N (.call { callee := .builtin .len, args := #[x], argTypes := #[t] }) ty env H (.int .i64 (xs.length : Int)) := by
  intro S a w hc
  have hv := hc.ev x
  rw [hx] at hv
  generalize he : a.eval x = u at hv
  cases hv
  refine ⟨.int .i64 xs.length, fun _ _ _ _ => ?_, .int⟩
  simp [execOp, resolve, invoke, builtin, Builtin.len_, he, run_und hu.ud, goInt]
theorem o_lenn {x : Operand} {t e : TypeId} [hu : SlI P t e] (hx : aev env x = .nsl) : V1 P N (.call { callee := .builtin .len, args := #[x], argTypes := #[t] }) ty env H (.int .i64 0) := by
  intro S a w hc
  have hv := hc.ev x
  rw [hx] at hv
  generalize he : a.eval x = u at hv
  cases hv
  refine ⟨.int .i64 0, fun _ _ _ _ => ?_, .int⟩
  simp [execOp, resolve, invoke, builtin, Builtin.len_, he, run_und hu.ud, goInt]
theorem o_lens {x : Operand} {t e : TypeId} {id off len cap : Nat} {o : AObj} [hu : SlI P t e] (hx : aev env x = .sl id o.gen off len cap) (hid : H[id]? = some o) : V1 P N (.call { callee := .builtin .len, args := #[x], argTypes := #[t] }) ty env H (.int .i64 (len : Int)) := by
  intro S a w hc
  obtain ⟨s, c, hs, ok, _, hlc, h⟩ := hc.slc hx hid
  refine ⟨.int .i64 len, fun _ _ _ _ => ?_, .int⟩
  rcases h with ⟨h0, ad, he⟩ | ⟨b, arr, et, hp, he, hb, hfit, hrow⟩
  · have el : len = 0 := by omega
    simp [execOp, resolve, invoke, builtin, Builtin.len_, he, run_und hu.ud, goInt, el]
  · simp [execOp, resolve, invoke, builtin, Builtin.len_, he, run_und hu.ud, goInt]
theorem o_min {x y : Operand} {t t' : TypeId} {k : IntKind} {p q r : Int} (hx : aev env x = .int k p) (hy : aev env y = .int k q) (hr : min p q = r) : V1 P N (.call { callee := .builtin .min, args := #[x, y], argTypes := #[t, t'] }) ty env H (.int k r) := by
  intro S a w hc
  refine ⟨.int k (min p q), fun _ _ _ _ => ?_, hr ▸ .int⟩
  have : (if q < p then q else p) = min p q := by omega
  simp [execOp, resolve, invoke, builtin, Builtin.min_, Builtin.min2, ev_int hc hx, ev_int hc hy, this]
theorem o_max {x y : Operand} {t t' : TypeId} {k : IntKind} {p q r : Int} (hx : aev env x = .int k p) (hy : aev env y = .int k q) (hr : max p q = r) : V1 P N (.call { callee := .builtin .max, args := #[x, y], argTypes := #[t, t'] }) ty env H (.int k r) := by
  intro S a w hc
  refine ⟨.int k (max p q), fun _ _ _ _ => ?_, hr ▸ .int⟩
  have : (if p < q then q else p) = max p q := by omega
  simp [execOp, resolve, invoke, builtin, Builtin.max_, Builtin.max2, ev_int hc hx, ev_int hc hy, this]

/-! #### Texts -/
theorem o_cat {x y : Operand} {t t' : TypeId} {p q : ByteArray} (hx : aev env x = .str p) (hy : aev env y = .str q) (hn : ((p.size + q.size : Nat) : Int) ≤ 9223372036854775807) : V1 P N (.binOp .add t x y t') ty env H (.str (p ++ q)) := by
  intro S a w hc
  refine ⟨.string (p ++ q), fun _ _ _ _ => ?_, .str⟩
  have : ¬ (IntKind.i64.max < ((p.size + q.size : Nat) : Int)) := by
    show ¬ ((9223372036854775807 : Int) < _)
    omega
  simp only [execOp, ev_str hc hx, ev_str hc hy, eqGuard, binOp, Op.stringOp]
  simp only [gt_iff_lt, this, if_false]
  simp
theorem o_seq {x y : Operand} {t t' : TypeId} {p q : ByteArray} (hx : aev env x = .str p) (hy : aev env y = .str q) : V1 P N (.binOp .eql t x y t') ty env H (.bool (p.toList == q.toList)) := by
  intro S a w hc
  exact ⟨.bool (p.toList == q.toList), fun _ _ _ _ => by simp [execOp, ev_str hc hx, ev_str hc hy, eqGuard, binOp, Op.stringOp], .bool⟩
theorem o_sne {x y : Operand} {t t' : TypeId} {p q : ByteArray} (hx : aev env x = .str p) (hy : aev env y = .str q) : V1 P N (.binOp .neq t x y t') ty env H (.bool (!(p.toList == q.toList))) := by
  intro S a w hc
  exact ⟨.bool (!(p.toList == q.toList)), fun _ _ _ _ => by simp [execOp, ev_str hc hx, ev_str hc hy, eqGuard, binOp, Op.stringOp], .bool⟩

/-! #### Tuples, function values, interface values -/
theorem o_extract {x : Operand} {i : Nat} {vs : List AV} {v : AV} (hx : aev env x = .tup vs) (hv : vs[i]? = some v) : V1 P N (.extract x i) ty env H v := by
  intro S a w hc
  have hv0 := hc.ev x
  rw [hx] at hv0
  generalize he : a.eval x = u at hv0
  cases hv0 with
  | @tup _ _ us hn h =>
    have hlt : i < us.size := by rw [← hn]; exact (List.getElem?_eq_some_iff.1 hv).1
    exact ⟨us[i], fun _ _ _ _ => by simp [execOp, he, Instr.extract, hlt], h i v _ hv (Array.getElem?_eq_getElem hlt)⟩
theorem o_makeFunc {f : Fn} {p q : Array Operand} {vs us : List AV} (hp : p.toList.map (aev env) = vs) (hq : q.toList.map (aev env) = us) : V1 P N (.makeFunc f p q) ty env H (.fn f vs us) := by
  intro S a w hc
  refine ⟨.func f (p.map a.eval) (q.map a.eval), fun _ _ _ _ => by simp [execOp, Instr.makeFunc], ?_⟩
  subst hp; subst hq
  refine .fn (by simp) (by simp) (fun j v u hv hu => ?_) (fun j v u hv hu => ?_)
  · simp only [List.getElem?_map, Array.getElem?_map] at hv hu
    cases hx : p[j]? with
    | none => simp [hx] at hu
    | some x =>
      have hx' : p.toList[j]? = some x := by simpa using hx
      rw [hx'] at hv
      rw [hx] at hu
      obtain rfl := Option.some.inj hv
      obtain rfl := Option.some.inj hu
      exact hc.ev x
  · simp only [List.getElem?_map, Array.getElem?_map] at hv hu
    cases hx : q[j]? with
    | none => simp [hx] at hu
    | some x =>
      have hx' : q.toList[j]? = some x := by simpa using hx
      rw [hx'] at hv
      rw [hx] at hu
      obtain rfl := Option.some.inj hv
      obtain rfl := Option.some.inj hu
      exact hc.ev x
/-- The type is no interface. -/
class NoI (P : Program) (t : TypeId) : Prop where
  ud : (match P.underlying t with | some (.interface _) => false | some _ => true | none => false) = true
theorem o_makeIface {x : Operand} {t : TypeId} {v : AV} [hu : NoI P t] (hx : aev env x = v) : V1 P N (.makeInterface t x) ty env H (.ifc t v) := by
  intro S a w hc
  subst hx
  refine ⟨.iface t (a.eval x), fun _ _ _ _ => ?_, .ifc (hc.ev x)⟩
  have h := hu.ud
  cases hd : P.underlying t with
  | none => simp [hd] at h
  | some d =>
    rw [hd] at h
    cases d <;> simp at h <;> simp [execOp, Instr.makeInterface, run_und hd]
end
end Go.Av

/-
  THE RULES OF WHAT MAKES MEMORY (new variables, literals, make, append, copy), OF CALLS, AND OF THE STEPS THAT ARE THE PROOF's OWN (a row is no longer written: it becomes a list; a nil slice is given a row).
-/
namespace Go.Av

/-! ### Filling -/
def afill (pl : List (Nat × Nat)) : List AV → List (Nat × AV) → Option (List AV)
  | cells, [] => some cells
  | cells, (i, v) :: rest =>
    match pl[i]? with
    | none => none
    | some (off, size) => if v.cells.length = size ∧ off + size ≤ cells.length ∧ v.cellish = true then afill pl (cells.take off ++ v.cells ++ cells.drop (off + size)) rest else none

/-- Cells of the model under cells from above. -/
def CellsR (S : List Slot) (w : World) (cs : List AV) (us : Array Value) : Prop :=
  cs.length = us.size ∧ ∀ (j : Nat) (v : AV), cs[j]? = some v → v.leaf = true ∧ ∃ u, us[j]? = some u ∧ VR (own S) w S v u

theorem foldl_set (vs : List Value) : ∀ (off j0 : Nat) (cs : Array Value), off + j0 + vs.length ≤ cs.size →
    ((vs.zipIdx j0).foldl (fun cs (x : Value × Nat) => cs.setIfInBounds (off + x.2) x.1) cs).toList = cs.toList.take (off + j0) ++ vs ++ cs.toList.drop (off + j0 + vs.length) := by
  induction vs with
  | nil => intro off j0 cs _; simp
  | cons v vs ih =>
    intro off j0 cs h
    simp only [List.length_cons] at h
    rw [List.zipIdx_cons, List.foldl_cons, ih off (j0 + 1) _ (by simp; omega)]
    have e := list_seg_step cs.toList (off + j0) v vs (by simp; omega)
    simp only [Array.toList_setIfInBounds, List.length_cons]
    rw [show off + (j0 + 1) = off + j0 + 1 by omega]
    exact e

theorem CellsR.put {S : List Slot} {w : World} {cs ds : List AV} {us : Array Value} {ws : Array Value} {off : Nat} (h : CellsR S w cs us) (hd : CellsR S w ds ws) (hfit : off + ds.length ≤ cs.length) :
    CellsR S w (cs.take off ++ ds ++ cs.drop (off + ds.length)) (ws.zipIdx.foldl (fun cs (c, j) => cs.setIfInBounds (off + j) c) us) := by
  have hl := h.1
  have hl2 := hd.1
  have e : (ws.zipIdx.foldl (fun cs (c, j) => cs.setIfInBounds (off + j) c) us).toList = us.toList.take off ++ ws.toList ++ us.toList.drop (off + ws.toList.length) := by
    have := foldl_set ws.toList off 0 us (by simp; omega)
    simp only [Nat.add_zero] at this
    rw [← this]
    congr 1
    rw [← Array.foldl_toList, Array.toList_zipIdx]
  have hsz : (ws.zipIdx.foldl (fun cs (c, j) => cs.setIfInBounds (off + j) c) us).size = us.size := by
    rw [← Array.length_toList, e]
    simp
    omega
  refine ⟨by rw [hsz]; simp; omega, fun j v hv => ?_⟩
  rw [← Array.getElem?_toList, e]
  rw [List.append_assoc] at hv ⊢
  have h1 : (cs.take off).length = off := by simp; omega
  have h2 : (us.toList.take off).length = off := by simp; omega
  by_cases hj : j < off
  · rw [List.getElem?_append_left (by omega), List.getElem?_take, if_pos hj] at hv
    obtain ⟨hl, u, hu, hr⟩ := h.2 j v hv
    exact ⟨hl, u, by rw [List.getElem?_append_left (by omega), List.getElem?_take, if_pos hj]; simpa using hu, hr⟩
  · rw [List.getElem?_append_right (by omega), h1] at hv
    rw [List.getElem?_append_right (by omega), h2]
    by_cases hj2 : j < off + ds.length
    · rw [List.getElem?_append_left (by omega)] at hv
      obtain ⟨hl, u, hu, hr⟩ := hd.2 (j - off) v hv
      exact ⟨hl, u, by rw [List.getElem?_append_left (by simp; omega)]; simpa using hu, hr⟩
    · rw [List.getElem?_append_right (by omega), List.getElem?_drop] at hv
      obtain ⟨hl, u, hu, hr⟩ := h.2 _ v hv
      refine ⟨hl, u, ?_, hr⟩
      rw [List.getElem?_append_right (by simp; omega), List.getElem?_drop]
      rw [show off + ws.toList.length + (j - off - ws.toList.length) = off + ds.length + (j - off - ds.length) by simp; omega]
      simpa using hu

theorem fill_ok {S : List Slot} {w : World} {pl : List (Nat × Nat)} {place : Nat → Option (Nat × Nat)} (hp : ∀ i, place i = pl[i]?) : ∀ (parts : List (Nat × AV)) (us : List (Nat × Value)) (cs cs' : List AV) (vs : Array Value),
    parts.length = us.length → (∀ (j : Nat) (x : Nat × AV) (y : Nat × Value), parts[j]? = some x → us[j]? = some y → x.1 = y.1 ∧ VR (own S) w S x.2 y.2) → CellsR S w cs vs → afill pl cs parts = some cs' →
    ∃ vs', Instr.fill place vs us = some vs' ∧ CellsR S w cs' vs'
  | [], [], cs, cs', vs, _, _, h, he => by
    simp [afill] at he
    subst he
    exact ⟨vs, rfl, h⟩
  | (i, v) :: parts, (i', u) :: us, cs, cs', vs, hn, hr, h, he => by
    obtain ⟨hi, hv⟩ := hr 0 _ _ rfl rfl
    simp only at hi hv
    subst hi
    unfold afill at he
    cases hpl : pl[i]? with
    | none => rw [hpl] at he; cases he
    | some x =>
      obtain ⟨off, size⟩ := x
      rw [hpl] at he
      simp only at he
      split at he
      · rename_i hc
        obtain ⟨h1, h2, h3⟩ := hc
        obtain ⟨k1, _, k3⟩ := hv.cells h3
        have hd : CellsR S w v.cells u.cells := ⟨k1, k3⟩
        have hput := h.put hd (off := off) (by omega)
        rw [h1] at hput
        obtain ⟨vs', e1, e2⟩ := fill_ok hp parts us _ cs' _ (by simpa using hn) (fun j x y hx hy => hr (j + 1) x y hx hy) hput he
        refine ⟨vs', ?_, e2⟩
        have hif : (decide (u.cells.size ≠ size) || decide (off + u.cells.size > vs.size)) = false := by
          have := h.1
          simp
          omega
        unfold Instr.fill
        rw [hp, hpl]
        simp only
        simp only [hif, Bool.false_eq_true, if_false]
        exact e1
      · cases he
  | [], _ :: _, _, _, _, hn, _, _, _ => by simp at hn
  | _ :: _, [], _, _, _, hn, _, _, _ => by simp at hn

theorem CellsR.leaf1 {S : List Slot} {w : World} {v : Value} (h : (ofLeaf v).leaf = true) : CellsR S w [ofLeaf v] #[v] := ⟨rfl, fun j x hx => by
  cases j with
  | zero => simp at hx; subst hx; exact ⟨h, v, by simp, ofLeaf_ok _ _ _ v⟩
  | succ j => simp at hx⟩
/-- A constant's cells. -/
theorem CellsR.of_val {S : List Slot} {w : World} {z : Value} {cs : List AV} (h : z.cells.toList.map ofLeaf = cs) (hl : cs.all AV.leaf = true) : CellsR S w cs z.cells := by
  subst h
  refine ⟨by simp, fun j v hv => ⟨List.all_eq_true.1 hl v (List.mem_of_getElem? hv), ?_⟩⟩
  rw [List.getElem?_map] at hv
  cases hj : z.cells.toList[j]? with
  | none => simp [hj] at hv
  | some u =>
    rw [hj] at hv
    obtain rfl := Option.some.inj hv
    exact ⟨u, by simpa using hj, ofLeaf_ok _ _ _ u⟩

/-- The zero value's cells. -/
class ZcI (P : Program) (t : TypeId) (cs : outParam (List AV)) : Prop where
  ze : ∃ z, (P.info? t).bind (·.zero) = some z ∧ z.cells.toList.map ofLeaf = cs ∧ cs.all AV.leaf = true
/-- A struct's fields: where, how wide. -/
class StI (P : Program) (t : TypeId) (pl : outParam (List (Nat × Nat))) : Prop where
  ud : (match P.underlying t with | some (.struct fs) => fs.toList.mapM (fun f => (P.info? f.type).map fun i => (f.offset, i.size)) | _ => none) = some pl

theorem run_zc {P : Program} {t : TypeId} {cs : List AV} [h : ZcI P t cs] (S : List Slot) (w : World) : ∃ z, (zeroValue t).run P w = .ok z w ∧ CellsR S w cs z.cells := by
  obtain ⟨z, h1, h2, h3⟩ := h.ze
  refine ⟨z, ?_, .of_val h2 h3⟩
  cases hd : P.info? t with
  | none => simp [hd] at h1
  | some i => simp [hd] at h1; simp [zeroValue, typeInfo, hd, h1]

theorem mapM_option_some {α β : Type} {f : α → Option β} : ∀ {l : List α} {r : List β}, l.mapM f = some r → l.length = r.length ∧ ∀ (i : Nat) (x : α), l[i]? = some x → f x = r[i]?
  | [], r, h => by simp at h; subst h; simp
  | x :: l, r, h => by
    simp only [List.mapM_cons] at h
    cases hx : f x with
    | none => simp [hx] at h
    | some y =>
      cases hl : l.mapM f with
      | none => simp [hx, hl] at h
      | some ys =>
        simp [hx, hl] at h
        subst h
        obtain ⟨h1, h2⟩ := mapM_option_some hl
        refine ⟨by simp [h1], fun i z hz => ?_⟩
        cases i with
        | zero => simp at hz; subst hz; simpa using hx
        | succ i => simpa using h2 i z (by simpa using hz)

theorem run_places {P : Program} (w : World) : ∀ (l : List Field) (pl : List (Nat × Nat)), l.mapM (fun f => (P.info? f.type).map fun i => (f.offset, i.size)) = some pl →
    (l.mapM (m := Sem) fun f => do pure (f.offset, ← sizeOf f.type)).run P w = .ok pl w
  | [], pl, h => by simp at h; subst h; simp
  | f :: l, pl, h => by
    simp only [List.mapM_cons] at h
    cases hx : P.info? f.type with
    | none => simp [hx] at h
    | some i =>
      cases hl : l.mapM (fun f => (P.info? f.type).map fun i => (f.offset, i.size)) with
      | none => simp [hx, hl] at h
      | some ys =>
        simp [hx, hl] at h
        subst h
        have ih := run_places w l ys hl
        simp only [List.mapM_cons, Sem.run_bind, sizeOf, typeInfo, run_program, Result.andThen_ok, hx, Sem.run_pure] at ih ⊢
        rw [ih]
        simp

section
variable {P : Program} {N : Nat} {B : Base} {Q : Post} {env : Env} {H : Heap} {ty : TypeId} {ops : Array Oper} {rest : List Oper}

theorem parts_ok {S : List Slot} {a : Act} {w : World} (hc : CR N env H S a w) (parts : Array (Nat × Operand)) : (parts.toList.map fun (i, x) => (i, aev env x)).length = (parts.map fun (i, x) => (i, a.eval x)).toList.length ∧
    ∀ (j : Nat) (x : Nat × AV) (y : Nat × Value), (parts.toList.map fun (i, x) => (i, aev env x))[j]? = some x → (parts.map fun (i, x) => (i, a.eval x)).toList[j]? = some y → x.1 = y.1 ∧ VR (own S) w S x.2 y.2 := by
  refine ⟨by simp, fun j x y hx hy => ?_⟩
  simp only [Array.toList_map, List.getElem?_map] at hx hy
  cases hj : parts.toList[j]? with
  | none => simp [hj] at hx
  | some p =>
    rw [hj] at hx hy
    obtain rfl := Option.some.inj hx
    obtain rfl := Option.some.inj hy
    exact ⟨rfl, hc.ev p.2⟩

theorem CellsR.agg {S : List Slot} {w : World} {cs : List AV} {us : Array Value} (h : CellsR S w cs us) : VR (own S) w S (.agg cs) (.agg us) :=
  .agg h.1 (fun j v hv => (h.2 j v hv).1) (fun j v u hv hu => by
    obtain ⟨_, u', hu', hr⟩ := h.2 j v hv
    rw [hu] at hu'
    obtain rfl := Option.some.inj hu'
    exact hr)

/-- A struct's literal. -/
theorem o_build {t : TypeId} {parts : Array (Nat × Operand)} {pl : List (Nat × Nat)} {zs cs : List AV} [hz : ZcI P t zs] [hs : StI P t pl] (hf : afill pl zs (parts.toList.map fun (i, x) => (i, aev env x)) = some cs) : V1 P N (.build t parts) ty env H (.agg cs) := by
  intro S a w hc
  obtain ⟨z, hz1, hz2⟩ := run_zc (P := P) (t := t) S w
  obtain ⟨h1, h2⟩ := parts_ok hc parts
  obtain ⟨vs', e1, e2⟩ := fill_ok (S := S) (w := w) (place := (pl.toArray[·]?)) (pl := pl) (fun i => by simp) _ _ zs cs z.cells h1 h2 hz2 hf
  refine ⟨.agg vs', fun _ _ _ _ => ?_, e2.agg⟩
  have hu := hs.ud
  cases hd : P.underlying t with
  | none => simp [hd] at hu
  | some d =>
    rw [hd] at hu
    cases d <;> simp only [] at hu <;> try (cases hu; done)
    rename_i fs
    have hp := run_places (P := P) w fs.toList pl hu
    have hp' : (fs.mapM (m := Sem) fun f => do pure (f.offset, ← sizeOf f.type)).run P w = .ok pl.toArray w := by
      have e : fs = fs.toList.toArray := by simp
      rw [e, List.mapM_toArray, Sem.run_map, hp]
      simp
    simp only [execOp, Instr.build, Sem.run_bind, hz1, Result.andThen_ok, run_und hd, hp', e1, Sem.run_pure]

/-! ### New variables -/
theorem CellsR.row {S : List Slot} {w : World} {cs : List AV} {us : Array Value} {sz : Nat} (h : CellsR S w cs us) (hn : cs.length = sz) : RowOK (own S) S w sz us [cs] := by
  refine ⟨by simp [← h.1, hn], fun i r hr => ?_⟩
  cases i with
  | zero =>
    simp at hr
    subst hr
    exact ⟨hn, fun j v hv => by simpa using h.2 j v hv⟩
  | succ i => simp at hr

theorem new_ptr {S : List Slot} {H : Heap} {w w' : World} {sz : Nat} (hlen : H.length = S.length) : VR (own (S ++ [⟨0, sz, some w.heap.size⟩])) w' (S ++ [⟨0, sz, some w.heap.size⟩]) (.pt H.length 0 0 0) (.pointer (some ⟨w.heap.size, 0, none⟩)) := by
  refine .pt ⟨0, sz, some w.heap.size⟩ (by rw [hlen]; exact SExt.last S _) (Nat.le_refl _) rfl fun _ => ⟨w.heap.size, rfl, by simp⟩

theorem o_alloc {t : TypeId} {sz : Nat} {zs : List AV} [hz : ZcI P t zs] (hn : zs.length = sz) (hp : 0 < sz) : V2 P N (.alloc t) ty env H (.pt H.length 0 0 0) (H ++ [⟨0, sz, [zs]⟩]) := by
  intro dst pos after guard S a w hc next Q hnext _
  obtain ⟨z, hz1, hz2⟩ := run_zc (P := P) (t := t) S w
  have hm := Made.alloc w z.cells t
  obtain ⟨hh, hx⟩ := hc.heap.made hm hp (hz2.row hn)
  have hrun : (execOp a.eval ⟨dst, .alloc t, ty, pos, after, guard⟩).run P w = .ok (.value (.pointer (some ⟨w.heap.size, 0, none⟩))) (w.alloc (.cells z.cells t)) := by
    simp [execOp, Instr.alloc, hz1, newVar, newRow]
  unfold Oper.wp
  rw [hrun]
  exact hnext _ _ _ _ _ ⟨rfl, rfl⟩ hh hx (new_ptr hc.heap.len)
theorem o_box {t : TypeId} {x : Operand} {v : AV} {sz : Nat} {cs : List AV} (hx : aev env x = v) (hv : v.cellish = true) (hcs : v.cells = cs) (hn : cs.length = sz) (hp : 0 < sz) : V2 P N (.box t x) ty env H (.pt H.length 0 0 0) (H ++ [⟨0, sz, [cs]⟩]) := by
  intro dst pos after guard S a w hc next Q hnext _
  have hvr := hc.ev x
  rw [hx] at hvr
  obtain ⟨h1, _, h3⟩ := hvr.cells hv
  subst hcs
  have hm := Made.alloc w (a.eval x).cells t
  obtain ⟨hh, hx'⟩ := hc.heap.made hm hp (CellsR.row ⟨h1, h3⟩ hn)
  have hrun : (execOp a.eval ⟨dst, .box t x, ty, pos, after, guard⟩).run P w = .ok (.value (.pointer (some ⟨w.heap.size, 0, none⟩))) (w.alloc (.cells (a.eval x).cells t)) := by
    simp [execOp, Instr.box, newVar, newRow]
  unfold Oper.wp
  rw [hrun]
  exact hnext _ _ _ _ _ ⟨rfl, rfl⟩ hh hx' (new_ptr hc.heap.len)

theorem new_slc {S : List Slot} {H : Heap} {w w' : World} {sz n c : Nat} {arr : Array Value} {et : TypeId} (hlen : H.length = S.length) (hnew : w'.heap[w.heap.size]? = some (Obj.cells arr et (0, 0))) (hsz : c * sz ≤ arr.size) (hc : n ≤ c) :
    VR (own (S ++ [⟨0, sz, some w.heap.size⟩])) w' (S ++ [⟨0, sz, some w.heap.size⟩]) (.sl H.length 0 0 n n) (.slice (some ⟨w.heap.size, 0, none⟩) n c) := by
  refine .sl ⟨0, sz, some w.heap.size⟩ (by rw [hlen]; exact SExt.last S _) (Nat.le_refl _) rfl fun _ => ⟨c, hc, hc, .inr ⟨w.heap.size, arr, et, rfl, by simp, hnew, by simpa using hsz⟩⟩

/-- Rows of one width, laid one behind the other. -/
theorem rows_of_flat {S : List Slot} {w : World} {sz : Nat} {rows : List (List AV)} {us : Array Value} (hw : ∀ r ∈ rows, r.length = sz) (h : CellsR S w rows.flatten us) : RowOK (own S) S w sz us rows := by
  have hget : ∀ (rows : List (List AV)), (∀ r ∈ rows, r.length = sz) → ∀ (i : Nat) (r : List AV) (j : Nat), rows[i]? = some r → j < sz → rows.flatten[i * sz + j]? = r[j]? := by
    intro rows
    induction rows with
    | nil => intro _ i r j hr _; simp at hr
    | cons x rows ih =>
      intro hw i r j hr hj
      have hx : x.length = sz := hw x (by simp)
      cases i with
      | zero =>
        simp at hr
        subst hr
        rw [List.flatten_cons, List.getElem?_append_left (by omega)]
        simp
      | succ i =>
        have := ih (fun r h => hw r (by simp [h])) i r j (by simpa using hr) hj
        rw [List.flatten_cons, List.getElem?_append_right (by rw [hx, Nat.succ_mul]; omega), hx, show (i + 1) * sz + j - sz = i * sz + j by rw [Nat.succ_mul]; omega]
        exact this
  have hlen : ∀ (rows : List (List AV)), (∀ r ∈ rows, r.length = sz) → rows.flatten.length = rows.length * sz := by
    intro rows
    induction rows with
    | nil => simp
    | cons x rows ih => intro hw; rw [List.flatten_cons, List.length_append, ih (fun r h => hw r (by simp [h])), hw x (by simp), List.length_cons, Nat.succ_mul]; omega
  refine ⟨by rw [← h.1, hlen rows hw]; exact Nat.le_refl _, fun i r hr => ?_⟩
  have hrl := hw r (List.mem_of_getElem? hr)
  refine ⟨hrl, fun j v hv => ?_⟩
  have hj : j < sz := by rw [← hrl]; exact (List.getElem?_eq_some_iff.1 hv).1
  exact h.2 (i * sz + j) v (by rw [hget rows hw i r j hr hj]; exact hv)

theorem CellsR.rep {S : List Slot} {w : World} {cs : List AV} {us : Array Value} (h : CellsR S w cs us) (hpos : 0 < cs.length) (n : Nat) : CellsR S w (List.replicate n cs).flatten ((Array.range (n * cs.length)).map (us[· % us.size]!)) := by
  have hlen : ∀ n, ((List.replicate n cs).flatten).length = n * cs.length := by intro n; simp
  have hget : ∀ n j, j < n * cs.length → ((List.replicate n cs).flatten)[j]? = cs[j % cs.length]? := by
    intro n
    induction n with
    | zero => intro j hj; simp at hj
    | succ n ih =>
      intro j hj
      rw [List.replicate_succ, List.flatten_cons]
      by_cases hlt : j < cs.length
      · rw [List.getElem?_append_left hlt, Nat.mod_eq_of_lt hlt]
      · rw [List.getElem?_append_right (by omega), ih (j - cs.length) (by rw [Nat.succ_mul] at hj; omega)]
        exact congrArg (cs[·]?) (Nat.mod_eq_sub_mod (by omega)).symm
  refine ⟨by simp [hlen], fun j v hv => ?_⟩
  have hj : j < n * cs.length := by rw [← hlen]; exact (List.getElem?_eq_some_iff.1 hv).1
  rw [hget n j hj] at hv
  obtain ⟨hl, u, hu, hr⟩ := h.2 _ v hv
  refine ⟨hl, u, ?_, hr⟩
  have hsz := h.1
  have hlt : j % us.size < us.size := Nat.mod_lt _ (by omega)
  rw [hsz] at hu
  have hu' : us[j % us.size] = u := by
    rw [Array.getElem?_eq_getElem hlt] at hu
    exact Option.some.inj hu
  have hj' : j < (Array.range (n * cs.length)).size := by simpa using hj
  rw [Array.getElem?_map, Array.getElem?_eq_getElem hj']
  simp [hlt, hu']

/-- The literal of a slice: 'fill' by elements. -/
theorem o_buildSlice {t e : TypeId} {n sz : Nat} {parts : Array (Nat × Operand)} {agg : Bool} {zs cs : List AV} {rows : List (List AV)} [hu : SlI P t e] [TyI P e agg sz] [hz : ZcI P e zs] (hn : zs.length = sz) (hp : 0 < sz) (h0 : 0 < n) (hbig : n * sz ≤ 16777216)
    (hf : afill ((List.range n).map fun i => (i * sz, sz)) (List.replicate n zs).flatten (parts.toList.map fun (i, x) => (i, aev env x)) = some cs) (hrows : rows.flatten = cs) (hw : ∀ r ∈ rows, r.length = sz) :
    V2 P N (.buildSlice t n parts) ty env H (.sl H.length 0 0 n n) (H ++ [⟨0, sz, rows⟩]) := by
  intro dst pos after guard S a w hc next Q hnext _
  obtain ⟨z, hz1, hz2⟩ := run_zc (P := P) (t := e) S w
  obtain ⟨h1, h2⟩ := parts_ok hc parts
  have hrep := hz2.rep (by omega) n
  rw [hn] at hrep
  -- only parts below n are laid
  have key : ∀ (parts : List (Nat × AV)) (us : List (Nat × Value)) (cs cs' : List AV) (vs : Array Value),
      parts.length = us.length → (∀ (j : Nat) (x : Nat × AV) (y : Nat × Value), parts[j]? = some x → us[j]? = some y → x.1 = y.1 ∧ VR (own S) w S x.2 y.2) → CellsR S w cs vs → afill ((List.range n).map fun i => (i * sz, sz)) cs parts = some cs' →
      ∃ vs', Instr.fill (fun i => some (i * sz, sz)) vs us = some vs' ∧ CellsR S w cs' vs' := by
    intro parts
    induction parts with
    | nil =>
      intro us cs cs' vs hl _ h he
      cases us with
      | nil => simp [afill] at he; subst he; exact ⟨vs, rfl, h⟩
      | cons y us => simp at hl
    | cons x parts ih =>
      intro us cs cs' vs hl hr h he
      cases us with
      | nil => simp at hl
      | cons y us =>
        obtain ⟨i, v⟩ := x
        obtain ⟨i', u⟩ := y
        obtain ⟨hi, hv⟩ := hr 0 _ _ rfl rfl
        simp only at hi hv
        subst hi
        unfold afill at he
        cases hpl : ((List.range n).map fun i => (i * sz, sz))[i]? with
        | none => rw [hpl] at he; cases he
        | some x =>
          have hx : x = (i * sz, sz) := by
            rw [List.getElem?_map] at hpl
            cases hi : (List.range n)[i]? with
            | none => simp [hi] at hpl
            | some k =>
              have hk : k = i := by
                have := List.getElem?_eq_some_iff.1 hi
                obtain ⟨hlt, e⟩ := this
                simpa using e.symm
              rw [hi] at hpl
              subst hk
              exact (Option.some.inj hpl).symm
          subst hx
          rw [hpl] at he
          simp only at he
          split at he
          · rename_i hcnd
            obtain ⟨c1, c2, c3⟩ := hcnd
            obtain ⟨k1, _, k3⟩ := hv.cells c3
            have hput := h.put ⟨k1, k3⟩ (off := i * sz) (by omega)
            rw [c1] at hput
            obtain ⟨vs', e1, e2⟩ := ih us _ cs' _ (by simpa using hl) (fun j x y hx hy => hr (j + 1) x y hx hy) hput he
            refine ⟨vs', ?_, e2⟩
            have hif : (decide (u.cells.size ≠ sz) || decide (i * sz + u.cells.size > vs.size)) = false := by
              have := h.1
              simp
              omega
            unfold Instr.fill
            simp only [hif, Bool.false_eq_true, if_false]
            exact e1
          · cases he
  obtain ⟨vs', e1, e2⟩ := key _ _ (List.replicate n zs).flatten cs _ h1 h2 hrep hf
  have hm := Made.alloc w vs' e
  subst hrows
  obtain ⟨hh, hx⟩ := hc.heap.made hm hp (rows_of_flat hw e2)
  have hlen : rows.flatten.length = vs'.size := e2.1
  have hsize : vs'.size = n * sz := by
    have hfl : ∀ (parts : List (Nat × AV)) (cs cs' : List AV), afill ((List.range n).map fun i => (i * sz, sz)) cs parts = some cs' → cs'.length = cs.length := by
      intro parts
      induction parts with
      | nil => intro cs cs' he; simp [afill] at he; rw [he]
      | cons x parts ih =>
        intro cs cs' he
        obtain ⟨i, v⟩ := x
        unfold afill at he
        split at he
        · cases he
        · split at he
          · rename_i hcnd
            have := ih _ _ he
            rw [this]
            simp
            omega
          · cases he
    have := hfl _ _ _ hf
    have h3 : ((List.replicate n zs).flatten).length = n * sz := by simp [hn]
    rw [← hlen, this, h3]
  have hrun : (execOp a.eval ⟨dst, .buildSlice t n parts, ty, pos, after, guard⟩).run P w = .ok (.value (.slice (some ⟨w.heap.size, 0, none⟩) n n)) (w.alloc (.cells vs' e)) := by
    have hne : ¬ (n * sz = 0) := by
      intro e
      rcases Nat.mul_eq_zero.1 e with h | h <;> omega
    have hnb : ¬ (n * sz > 2 ^ 24) := by omega
    have hzc : z.cells.size = sz := by rw [← hz2.1, hn]
    simp only [execOp, Instr.buildSlice, Sem.run_bind, run_und hu.ud, Result.andThen_ok, run_sz (P := P) (t := e) (agg := agg) (sz := sz), hnb, hne, if_false, hz1, Sem.run_pure, e1]
    simp [newRow]
  unfold Oper.wp
  rw [hrun]
  exact hnext _ _ _ _ _ ⟨rfl, rfl⟩ hh hx (new_slc hc.heap.len hm.new (by omega) (Nat.le_refl _))
theorem o_buildSlice0 {t e : TypeId} {sz : Nat} {agg : Bool} [hu : SlI P t e] [TyI P e agg sz] : V2 P N (.buildSlice t 0 #[]) ty env H .nsl H := by
  intro dst pos after guard S a w hc next Q hnext _
  have hm := Made.alloc w #[] e
  have hx := hm.same (S := S)
  have hrun : (execOp a.eval ⟨dst, .buildSlice t 0 #[], ty, pos, after, guard⟩).run P w = .ok (.value (.slice (some ⟨w.heap.size, 0, none⟩) 0 0)) (w.alloc (.cells #[] e)) := by
    simp [execOp, Instr.buildSlice, run_und hu.ud, run_sz (P := P) (t := e) (agg := agg) (sz := sz), Instr.fill, newRow, Array.range_zero']
  unfold Oper.wp
  rw [hrun]
  have hh : HRel H S (w.alloc (.cells #[] e)) := by
    refine ⟨hc.heap.len, fun id o s ho hs => ?_, hc.heap.inj⟩
    have ok := hc.heap.obj id o s ho hs
    refine ⟨ok.gen, ok.sz, ok.pos, ok.nope, fun b hb => ?_⟩
    obtain ⟨arr, ty', h1, h2⟩ := ok.row hb
    exact ⟨arr, ty', by rw [hm.old b (Array.getElem?_eq_some_iff.1 h1).1]; exact h1, (h2.mono hx.stp hx.slots).1, (h2.mono hx.stp hx.slots).2⟩
  exact hnext _ _ _ _ _ ⟨rfl, rfl⟩ hh hx .nsl

theorem o_makeSlice {t e : TypeId} {x y : Operand} {k k' : IntKind} {n c sz bytes : Nat} {agg : Bool} {zs : List AV} [hu : SlI P t e] [TyI P e agg sz] [hz : ZcI P e zs] [hby : ByI P e bytes] (hn : zs.length = sz) (hp : 0 < sz)
    (hx : aev env x = .int k (n : Int)) (hy : aev env y = .int k' (c : Int)) (hnc : n ≤ c) (hb : bytes * c ≤ 281474976710656) (h63 : (c : Int) ≤ 9223372036854775807) :
    V2 P N (.makeSlice t x y) ty env H (.sl H.length 0 0 n c) (H ++ [⟨0, sz, List.replicate c zs⟩]) := by
  intro dst pos after guard S a w hc next Q hnext _
  obtain ⟨z, hz0, hz1, hz2⟩ := hz.ze
  have hzr : CellsR S w zs z.cells := .of_val hz1 hz2
  have hti := (inferInstance : TyI P e agg sz).info
  have htb := hby.by_
  cases hd : P.info? e with
  | none => simp [hd] at hti
  | some i =>
    simp [hd] at hti htb hz0
    have hr := run_make (P := P) w t e i z hu.ud hd hz0 k k' (n : Int) (c : Int) (by omega) (by omega) (by rw [htb, ← Int.natCast_mul]; omega) h63
    have hm := Made.alloc w (madeCells z.cells (c * i.size)) e
    have hrep := hzr.rep (by omega) c
    rw [hn] at hrep
    have hrow : RowOK (own S) S w sz (madeCells z.cells (c * i.size)) (List.replicate c zs) := by
      rw [hti]
      exact rows_of_flat (fun r hr => by rw [List.eq_of_mem_replicate hr]; exact hn) hrep
    obtain ⟨hh, hx'⟩ := hc.heap.made hm hp hrow
    have hrun : (execOp a.eval ⟨dst, .makeSlice t x y, ty, pos, after, guard⟩).run P w = .ok (.value (.slice (some ⟨w.heap.size, 0, none⟩) n c)) (w.alloc (.cells (madeCells z.cells (c * i.size)) e)) := by
      show Sem.run P (do pure (Next.value (← Instr.makeSlice t (a.eval x) (a.eval y)))) w = _
      rw [ev_int hc hx, ev_int hc hy, Sem.run_bind, hr]
      rfl
    unfold Oper.wp
    rw [hrun]
    refine hnext _ _ _ _ _ ⟨rfl, rfl⟩ hh hx' ?_
    refine .sl ⟨0, sz, some w.heap.size⟩ (by rw [hc.heap.len]; exact SExt.last S _) (Nat.le_refl _) rfl fun _ => ⟨c, Nat.le_refl _, hnc, .inr ⟨w.heap.size, _, _, rfl, by simp, hm.new, ?_⟩⟩
    simp [size_madeCells, hti]
end
end Go.Av

/-
  append, copy, conversions between bytes and texts, calls, panics; and the steps that are the proof's own.
-/
namespace Go.Av

/-- What is appended or copied: its elements. -/
structure SrcR (P : Program) (S : List Slot) (w : World) (sz : Nat) (ys : List (List AV)) (x : Value) (news : Array Value) : Prop where
  len : ∀ w', (Builtin.lenOf x).run P w' = .ok ys.length w'
  first : ∀ w', w'.heap = w.heap → (Builtin.firstCells sz ys.length x).run P w' = .ok news w'
  cells : CellsR S w ys.flatten news
  one : ∀ u ∈ news.toList, u.oneCell' = true
  wide : ∀ r ∈ ys, r.length = sz

theorem flat_length {sz : Nat} : ∀ {rows : List (List AV)}, (∀ r ∈ rows, r.length = sz) → rows.flatten.length = rows.length * sz
  | [], _ => by simp
  | x :: rows, hw => by rw [List.flatten_cons, List.length_append, flat_length (fun r h => hw r (by simp [h])), hw x (by simp), List.length_cons, Nat.succ_mul]; omega
theorem flat_get {sz : Nat} : ∀ {rows : List (List AV)}, (∀ r ∈ rows, r.length = sz) → ∀ {i : Nat} {r : List AV} {j : Nat}, rows[i]? = some r → j < sz → rows.flatten[i * sz + j]? = r[j]?
  | [], _, i, r, j, hr, _ => by simp at hr
  | x :: rows, hw, i, r, j, hr, hj => by
    have hx : x.length = sz := hw x (by simp)
    cases i with
    | zero =>
      simp at hr
      subst hr
      rw [List.flatten_cons, List.getElem?_append_left (by omega)]
      simp
    | succ i =>
      have := flat_get (rows := rows) (fun r h => hw r (by simp [h])) (i := i) (r := r) (j := j) (by simpa using hr) hj
      rw [List.flatten_cons, List.getElem?_append_right (by rw [hx, Nat.succ_mul]; omega), hx, show (i + 1) * sz + j - sz = i * sz + j by rw [Nat.succ_mul]; omega]
      exact this

/-- Cells that lie row by row are the cells of the rows laid one behind the other. -/
theorem flat_cells {S : List Slot} {w : World} {sz : Nat} {ys : List (List AV)} {us : Nat → Value} (hw : ∀ r ∈ ys, r.length = sz)
    (h : ∀ (i : Nat) (r : List AV), ys[i]? = some r → ∀ (j : Nat) (v : AV), r[j]? = some v → v.leaf = true ∧ VR (own S) w S v (us (i * sz + j))) : CellsR S w ys.flatten ((List.range (ys.length * sz)).map us).toArray := by
  have hlen := flat_length hw
  refine ⟨by simp [hlen], fun k v hk => ?_⟩
  have hlt : k < ys.length * sz := by rw [← hlen]; exact (List.getElem?_eq_some_iff.1 hk).1
  have hpos : 0 < sz := by rcases Nat.eq_zero_or_pos sz with e | e; · subst e; simp at hlt
                           · exact e
  have hi : k / sz < ys.length := (Nat.div_lt_iff_lt_mul hpos).2 hlt
  have hj : k % sz < sz := Nat.mod_lt _ hpos
  have hk' : k / sz * sz + k % sz = k := Nat.div_add_mod' k sz
  have := flat_get hw (List.getElem?_eq_getElem hi) hj
  rw [hk', hk] at this
  obtain ⟨h1, h2⟩ := h (k / sz) _ (List.getElem?_eq_getElem hi) (k % sz) v this.symm
  rw [hk'] at h2
  exact ⟨h1, us k, by simp [hlt], h2⟩

theorem cell_eq_of_heap {w w' : World} (h : w'.heap = w.heap) (a : Addr) : w'.cell? a = w.cell? a := by simp [World.cell?, h]

section
variable {P : Program} {N : Nat} {B : Base} {Q : Post} {env : Env} {H : Heap} {ty : TypeId} {ops : Array Oper} {rest : List Oper}

theorem first_cells {w : World} {sz n : Nat} {ad : Addr} {l c : Nat} {us : Nat → Value} (h : ∀ k, k < n * sz → w.cell? (ad.add k) = some (us k)) (w' : World) (hw : w'.heap = w.heap) :
    (Builtin.firstCells sz n (.slice (some ad) l c)).run P w' = .ok ((List.range (n * sz)).map us).toArray w' := by
  have := run_loadCells (P := P) w' ad (n * sz) us (fun j hj => by rw [cell_eq_of_heap hw]; exact h j hj)
  simpa [Builtin.firstCells] using this

theorem src_pl {S : List Slot} {a : Act} {w : World} (hc : CR N env H S a w) {x : Operand} {ys : List (List AV)} {sz : Nat} (hx : aev env x = .pl ys) (hw : ∀ r ∈ ys, r.length = sz) : ∃ news, SrcR P S w sz ys (a.eval x) news := by
  have hv := hc.ev x
  rw [hx] at hv
  generalize a.eval x = u at hv
  cases hv with
  | @pl _ _ ad c base z u hcap hb hs hm hl hv =>
    by_cases hne : ys = []
    · subst hne
      refine ⟨#[], fun w' => rfl, fun w' _ => ?_, ⟨rfl, fun _ _ h => by simp at h⟩, by simp, by simp⟩
      cases ad with
      | none => rfl
      | some ad => simp [Builtin.firstCells, loadCells, loadCellsFrom]
    · obtain ⟨k1, k2, k3⟩ := hb hne
      subst k1
      have hz : z = sz := by
        cases ys with
        | nil => exact absurd rfl hne
        | cons r ys => rw [← hs 0 r rfl]; exact hw r (by simp)
      subst hz
      have hcell : ∀ k, k < ys.length * z → w.cell? (base.add k) = some (u (k / z) (k % z)) := by
        intro k hk
        have hpos : 0 < z := by rcases Nat.eq_zero_or_pos z with e | e; · subst e; simp at hk
                                · exact e
        have := hm (k / z) ((Nat.div_lt_iff_lt_mul hpos).2 hk) (k % z) (Nat.mod_lt _ hpos)
        rwa [Nat.div_add_mod' k z] at this
      have hcr : CellsR S w ys.flatten ((List.range (ys.length * z)).map fun k => u (k / z) (k % z)).toArray := flat_cells hw fun i r hr j v hv' => by
        have hj : j < z := by rw [← hs i r hr]; exact (List.getElem?_eq_some_iff.1 hv').1
        have e1 : (i * z + j) / z = i := by rw [Nat.add_comm, Nat.add_mul_div_right _ _ (by omega), Nat.div_eq_of_lt hj, Nat.zero_add]
        have e2 : (i * z + j) % z = j := by rw [Nat.add_comm, Nat.add_mul_mod_self_right, Nat.mod_eq_of_lt hj]
        rw [e1, e2]
        exact ⟨hl i j r v hr hv', (hv i j r v hr hv').mono (Stp.refl _ _) (SExt.nil S)⟩
      refine ⟨_, fun w' => rfl, fun w' hw' => first_cells hcell w' hw', hcr, fun y hy => ?_, hw⟩
      obtain ⟨k, hk⟩ := List.mem_iff_getElem?.1 hy
      have hlt : k < ys.flatten.length := by rw [hcr.1]; exact (List.getElem?_eq_some_iff.1 hk).1
      obtain ⟨hlf, y', hy', hr⟩ := hcr.2 k _ (List.getElem?_eq_getElem hlt)
      have : y = y' := by
        have h2 : (((List.range (ys.length * z)).map fun k => u (k / z) (k % z)).toArray)[k]? = some y := by simpa using hk
        rw [h2] at hy'
        exact Option.some.inj hy'
      rw [this]
      exact hr.one hlf

theorem src_nsl {S : List Slot} {a : Act} {w : World} (hc : CR N env H S a w) {x : Operand} {sz : Nat} (hx : aev env x = .nsl) : ∃ news, SrcR P S w sz [] (a.eval x) news := by
  have hv := hc.ev x
  rw [hx] at hv
  generalize a.eval x = u at hv
  cases hv with
  | @nsl _ ad =>
    refine ⟨#[], fun w' => rfl, fun w' _ => ?_, ⟨rfl, fun _ _ h => by simp at h⟩, by simp, by simp⟩
    cases ad with
    | none => rfl
    | some ad => simp [Builtin.firstCells, loadCells, loadCellsFrom]

theorem src_sl {S : List Slot} {a : Act} {w : World} (hc : CR N env H S a w) {x : Operand} {id off len cap : Nat} {o : AObj} {ys : List (List AV)} (hx : aev env x = .sl id o.gen off len cap) (hid : H[id]? = some o) (hys : (o.rows.drop off).take len = ys) (hlen : ys.length = len) : ∃ news, SrcR P S w o.sz ys (a.eval x) news := by
  obtain ⟨s, c, hs, ok, hcc, hlc, h⟩ := hc.slc hx hid
  have hget : ∀ i r, ys[i]? = some r → o.rows[off + i]? = some r := by
    intro i r hr
    have hi : i < len := by rw [← hlen]; exact (List.getElem?_eq_some_iff.1 hr).1
    rw [← hys, List.getElem?_take, if_pos hi, List.getElem?_drop] at hr
    exact hr
  rcases h with ⟨h0, ad, he⟩ | ⟨b, arr, et, hp, he, hb, hfit, hrow⟩
  · have : len = 0 := by omega
    subst this
    have : ys = [] := List.eq_nil_of_length_eq_zero hlen
    subst this
    rw [he]
    refine ⟨#[], fun w' => rfl, fun w' _ => ?_, ⟨rfl, fun _ _ h => by simp at h⟩, by simp, by simp⟩
    cases ad with
    | none => rfl
    | some ad => simp [Builtin.firstCells, loadCells, loadCellsFrom]
  · have hw : ∀ r ∈ ys, r.length = o.sz := by
      intro r hr
      obtain ⟨i, hi⟩ := List.mem_iff_getElem?.1 hr
      exact (hrow.2 _ r (hget i r hi)).1
    have hcell : ∀ k, k < ys.length * o.sz → w.cell? ((⟨b, off * o.sz, none⟩ : Addr).add k) = some ((fun k => arr.getD (off * o.sz + k) undef) k) := by
      intro k hk
      have : off * o.sz + k < arr.size := by
        rw [hlen] at hk
        have h1 : len * o.sz ≤ c * o.sz := Nat.mul_le_mul_right _ hlc
        rw [Nat.add_mul] at hfit
        omega
      rw [add_none, cell_of_row w b _ arr _ _ hb]
      simp [this]
    have hcr : CellsR S w ys.flatten ((List.range (ys.length * o.sz)).map fun k => arr.getD (off * o.sz + k) undef).toArray := flat_cells hw fun i r hr j v hv' => by
      obtain ⟨h1, u, h2, h3⟩ := (hrow.2 _ r (hget i r hr)).2 j v hv'
      refine ⟨h1, ?_⟩
      have e : arr.getD (off * o.sz + (i * o.sz + j)) undef = u := by
        rw [show off * o.sz + (i * o.sz + j) = (off + i) * o.sz + j by rw [Nat.add_mul]; omega]
        simp [h2]
      rw [e]
      exact h3
    rw [he, ← hlen]
    refine ⟨_, fun w' => rfl, fun w' hw' => first_cells hcell w' hw', hcr, fun y hy => ?_, hw⟩
    obtain ⟨k, hk⟩ := List.mem_iff_getElem?.1 hy
    have hlt : k < ys.flatten.length := by rw [hcr.1]; exact (List.getElem?_eq_some_iff.1 hk).1
    obtain ⟨hlf, y', hy', hr⟩ := hcr.2 k _ (List.getElem?_eq_getElem hlt)
    have : y = y' := by
      have h2 : (((List.range (ys.length * o.sz)).map fun k => arr.getD (off * o.sz + k) undef).toArray)[k]? = some y := by simpa using hk
      rw [h2] at hy'
      exact Option.some.inj hy'
    rw [this]
    exact hr.one hlf

/-- The bytes of a text, as1 rows. -/
def brow (b : UInt8) : List AV := [.int .u8 (b.toNat : Int)]
theorem src_str {S : List Slot} {a : Act} {w : World} (hc : CR N env H S a w) {x : Operand} {s : ByteArray} (hx : aev env x = .str s) : ∃ news, SrcR P S w 1 (s.data.toList.map brow) (a.eval x) news := by
  rw [ev_str hc hx]
  have hn : (s.data.toList.map brow).length = s.size := by simp
  have hfl : (s.data.toList.map brow).flatten = s.data.toList.map fun b => .int .u8 (b.toNat : Int) := by
    generalize s.data.toList = l
    induction l with
    | nil => rfl
    | cons b l ih => simp [brow, ih]
  refine ⟨s.data.map fun b => .int .u8 b.toNat, fun w' => by simp [Builtin.lenOf, hn], fun w' _ => ?_, ?_, ?_, ?_⟩
  · have : s.extract 0 s.size = s := by
      cases s
      simp [ByteArray.extract, ByteArray.size, ByteArray.copySlice]
    simp [Builtin.firstCells, hn, this]
  · rw [hfl]
    refine ⟨by simp, fun j v hv => ?_⟩
    rw [List.getElem?_map] at hv
    cases hj : s.data.toList[j]? with
    | none => simp [hj] at hv
    | some b =>
      rw [hj] at hv
      obtain rfl := Option.some.inj hv
      exact ⟨rfl, .int .u8 b.toNat, by simp at hj; simp [hj], .int⟩
  · intro u hu
    simp at hu
    obtain ⟨b, _, rfl⟩ := hu
    rfl
  · intro r hr
    simp at hr
    obtain ⟨b, _, rfl⟩ := hr
    rfl

/-! ### append -/
/-- The type of what is appended: a slice's, or a text's. -/
class NiI (P : Program) (t : TypeId) : Prop where
  ud : (∃ e, P.underlying t = some (.slice e)) ∨ P.underlying t = some .string

theorem run_append_in {t t' e : TypeId} {sz : Nat} {agg : Bool} [hu : SlI P t e] [hni : NiI P t'] [TyI P e agg sz] {S : List Slot} {w : World} {ys : List (List AV)} {x : Value} {news : Array Value} (hs : SrcR P S w sz ys x news) {base : Option Addr} {len c : Nat} (hroom : len + ys.length ≤ c) :
    (Builtin.append_ #[t, t'] ty #[.slice base len c, x]).run P w = (match base with
      | some a => (storeCells (a.add (len * sz)) news.toList).run P w
      | none => .ok () w).andThen fun _ w' => .ok (.slice base (len + ys.length) c) w' := by
  have hf := hs.first w rfl
  rcases hni.ud with ⟨e', hd⟩ | hd <;> cases base <;> simp [Builtin.append_, run_und hu.ud, run_und hd, run_sz (P := P) (t := e) (agg := agg) (sz := sz), hs.len, hroom, hf]

theorem run_append_out {t t' e : TypeId} {sz bytes : Nat} {agg : Bool} {zs : List AV} [hu : SlI P t e] [hni : NiI P t'] [ht : TyI P e agg sz] [hz : ZcI P e zs] [hby : ByI P e bytes] {S : List Slot} {w : World} {ys : List (List AV)} {x : Value} {news olds : Array Value} (hs : SrcR P S w sz ys x news) {base : Option Addr} {len c : Nat}
    (hold : ∀ w', w'.heap = w.heap → (Builtin.firstCells sz len (.slice base len c)).run P w' = .ok olds w')
    (hroom : c < len + ys.length) (h63 : len + ys.length ≤ 9223372036854775807) (hb : (len + ys.length) * bytes ≤ 140737488355328) :
    ∃ cap' rest, len + ys.length ≤ cap' ∧ rest.size = (cap' - (len + ys.length)) * zs.length ∧ (Builtin.append_ #[t, t'] ty #[.slice base len c, x]).run P w = .ok (.slice (some ⟨w.heap.size, 0, none⟩) (len + ys.length) cap') (w.drew.alloc (.cells (olds ++ news ++ rest) e)) := by
  obtain ⟨z, hz0, hz1, hz2⟩ := hz.ze
  have htb := hby.by_
  cases hi : P.info? e with
  | none => simp [hi] at htb
  | some i =>
    simp [hi] at htb hz0
    have hf := hs.first w.drew rfl
    have hfo := hold w.drew rfl
    have hfit := growslice_fits (bytes := i.bytes) hroom (by rw [htb]; exact hb)
    have n1 : ¬ (len + ys.length ≤ c) := by omega
    have n2 : ¬ ((9223372036854775807 : Int) < ((len : Int) + (ys.length : Int))) := by omega
    have n3 : ¬ (281474976710656 < Builtin.nextslicecap (len + ys.length) c * i.bytes) := by omega
    refine ⟨grownCap w (len + ys.length) c e, Builtin.zeroCells z.cells (grownCap w (len + ys.length) c e - (len + ys.length)), grownCap_ge _ _ _ _, ?_, ?_⟩
    · rw [size_zeroCells, ← hz1]; simp
    · have hiz : i.zero = some z := hz0
      rcases hni.ud with ⟨e', hd⟩ | hd <;> simp [Builtin.append_, run_und hu.ud, run_und hd, run_sz (P := P) (t := e) (agg := agg) (sz := sz), typeInfo, zeroValue, hi, hiz, hs.len, n1, n2, n3, Question.forced, hf, hfo, newRow, grownCap]

theorem RowOK.of_cells {S : List Slot} {w : World} {sz : Nat} {rows : List (List AV)} {arr more : Array Value} (hw : ∀ r ∈ rows, r.length = sz) (h : CellsR S w rows.flatten arr) : RowOK (own S) S w sz (arr ++ more) rows := by
  have h1 := rows_of_flat hw h
  refine ⟨Nat.le_trans h1.1 (by simp), fun i r hr => ⟨(h1.2 i r hr).1, fun j v hv => ?_⟩⟩
  obtain ⟨hl, u, hu, hvr⟩ := (h1.2 i r hr).2 j v hv
  exact ⟨hl, u, by rw [Array.getElem?_append_left (Array.getElem?_eq_some_iff.1 hu).1]; exact hu, hvr⟩

theorem CellsR.append {S : List Slot} {w : World} {cs ds : List AV} {us vs : Array Value} (h : CellsR S w cs us) (k : CellsR S w ds vs) : CellsR S w (cs ++ ds) (us ++ vs) := by
  refine ⟨by simp [h.1, k.1], fun j v hv => ?_⟩
  by_cases hj : j < cs.length
  · rw [List.getElem?_append_left hj] at hv
    obtain ⟨hl, u, hu, hr⟩ := h.2 j v hv
    exact ⟨hl, u, by rw [Array.getElem?_append_left (by rw [← h.1]; exact hj)]; exact hu, hr⟩
  · rw [List.getElem?_append_right (by omega)] at hv
    obtain ⟨hl, u, hu, hr⟩ := k.2 _ v hv
    exact ⟨hl, u, by rw [Array.getElem?_append_right (by rw [← h.1]; omega), ← h.1]; exact hu, hr⟩

/-- What is appended, from above. -/
def Src (P : Program) (N : Nat) (env : Env) (H : Heap) (x : Operand) (sz : Nat) (ys : List (List AV)) : Prop := ∀ S a w, CR N env H S a w → ∃ news, SrcR P S w sz ys (a.eval x) news
theorem Src.pl {x : Operand} {ys : List (List AV)} {sz : Nat} (hx : aev env x = .pl ys) (hw : ∀ r ∈ ys, r.length = sz) : Src P N env H x sz ys := fun _ _ _ hc => src_pl hc hx hw
theorem Src.nsl {x : Operand} {sz : Nat} (hx : aev env x = .nsl) : Src P N env H x sz [] := fun _ _ _ hc => src_nsl hc hx
theorem Src.sl {x : Operand} {id off len cap : Nat} {o : AObj} {sz : Nat} {ys : List (List AV)} (hx : aev env x = .sl id o.gen off len cap) (hid : H[id]? = some o) (hsz : o.sz = sz) (hys : (o.rows.drop off).take len = ys) (hlen : ys.length = len) : Src P N env H x sz ys := fun _ _ _ hc => hsz ▸ src_sl hc hx hid hys hlen
theorem Src.str {x : Operand} {s : ByteArray} (hx : aev env x = .str s) : Src P N env H x 1 (s.data.toList.map brow) := fun _ _ _ hc => src_str hc hx

theorem same_heap {S : List Slot} {w w' : World} (hh : HRel H S w) (hx : Ext S w S w') (hold : ∀ b, b < w.heap.size → w'.heap[b]? = w.heap[b]?) : HRel H S w' := by
  refine ⟨hh.len, fun id o s ho hs => ?_, hh.inj⟩
  have ok := hh.obj id o s ho hs
  refine ⟨ok.gen, ok.sz, ok.pos, ok.nope, fun b hb => ?_⟩
  obtain ⟨arr, ty', h1, h2⟩ := ok.row hb
  exact ⟨arr, ty', by rw [hold b (Array.getElem?_eq_some_iff.1 h1).1]; exact h1, (h2.mono hx.stp hx.slots).1, (h2.mono hx.stp hx.slots).2⟩

/-- Onto an empty slice with no room. -/
theorem o_append_nsl {t t' e : TypeId} {x y : Operand} {sz bytes : Nat} {agg : Bool} {zs : List AV} {ys : List (List AV)} [hu : SlI P t e] [NiI P t'] [TyI P e agg sz] [hz : ZcI P e zs] [ByI P e bytes] (hn : zs.length = sz) (hp : 0 < sz)
    (hx : aev env x = .nsl) (hy : Src P N env H y sz ys) (hne : 0 < ys.length) (h63 : ys.length ≤ 9223372036854775807) (hb : ys.length * bytes ≤ 140737488355328) :
    V2 P N (.call { callee := .builtin .append, args := #[x, y], argTypes := #[t, t'] }) ty env H (.sl H.length 0 0 ys.length ys.length) (H ++ [⟨0, sz, ys⟩]) := by
  intro dst pos after guard S a w hc next Q hnext _
  obtain ⟨news, hs⟩ := hy S a w hc
  have hv := hc.ev x
  rw [hx] at hv
  generalize he : a.eval x = u at hv
  cases hv with
  | @nsl _ ad =>
    have hold : ∀ w', w'.heap = w.heap → (Builtin.firstCells sz 0 (.slice ad 0 0)).run P w' = .ok #[] w' := by
      intro w' _
      cases ad with
      | none => rfl
      | some ad => simp [Builtin.firstCells, loadCells, loadCellsFrom]
    obtain ⟨cap', rest, h1, h2, hr⟩ := run_append_out (P := P) (t := t) (t' := t') (e := e) (ty := ty) (sz := sz) (bytes := bytes) (agg := agg) (zs := zs) hs hold (by omega) (by omega) (by rw [Nat.zero_add]; exact hb)
    rw [Nat.zero_add] at h1 h2 hr
    simp only [Array.empty_append] at hr
    have hm := Made.drew_alloc w (news ++ rest) e
    obtain ⟨hh, hx'⟩ := hc.heap.made hm hp (RowOK.of_cells hs.wide hs.cells)
    have hrun : (execOp a.eval ⟨dst, .call { callee := .builtin .append, args := #[x, y], argTypes := #[t, t'] }, ty, pos, after, guard⟩).run P w = .ok (.value (.slice (some ⟨w.heap.size, 0, none⟩) ys.length cap')) (w.drew.alloc (.cells (news ++ rest) e)) := by
      simp [execOp, resolve, invoke, builtin, he, hr]
    unfold Oper.wp
    rw [hrun]
    refine hnext _ _ _ _ _ ⟨rfl, rfl⟩ hh hx' (new_slc hc.heap.len hm.new ?_ h1)
    have hl := hs.cells.1
    rw [flat_length hs.wide] at hl
    simp only [Array.size_append, ← hl, h2, hn, ← Nat.add_mul]
    exact Nat.mul_le_mul_right _ (by omega)
theorem o_append_nsl0 {t t' e : TypeId} {x y : Operand} {sz : Nat} {agg : Bool} [hu : SlI P t e] [NiI P t'] [TyI P e agg sz]
    (hx : aev env x = .nsl) (hy : Src P N env H y sz []) : V2 P N (.call { callee := .builtin .append, args := #[x, y], argTypes := #[t, t'] }) ty env H .nsl H := by
  intro dst pos after guard S a w hc next Q hnext _
  obtain ⟨news, hs⟩ := hy S a w hc
  have hv := hc.ev x
  rw [hx] at hv
  generalize he : a.eval x = u at hv
  cases hv with
  | @nsl _ ad =>
    have hr := run_append_in (P := P) (t := t) (t' := t') (e := e) (ty := ty) (agg := agg) hs (base := ad) (len := 0) (c := 0) (by simp)
    have hnews : news = #[] := by
      have := hs.cells.1
      simp at this
      exact Array.size_eq_zero_iff.1 this.symm
    subst hnews
    have hrun : (execOp a.eval ⟨dst, .call { callee := .builtin .append, args := #[x, y], argTypes := #[t, t'] }, ty, pos, after, guard⟩).run P w = .ok (.value (.slice ad 0 0)) w := by
      cases ad <;> simp [execOp, resolve, invoke, builtin, he, hr, storeCells]
    unfold Oper.wp
    rw [hrun]
    exact hnext _ _ _ _ _ ⟨rfl, rfl⟩ hc.heap (Ext.refl S w) .nsl

/-- Onto a slice of the call's own, from its row's head. -/
theorem o_appendM {t t' e : TypeId} {x y : Operand} {id len cap sz bytes m : Nat} {agg : Bool} {zs : List AV} {o : AObj} {ys : List (List AV)} [hu : SlI P t e] [NiI P t'] [TyI P e agg sz] [hz : ZcI P e zs] [ByI P e bytes] (hn : zs.length = sz)
    (hx : aev env x = .sl id o.gen 0 len cap) (hid : H[id]? = some o) (hsz : o.sz = sz) (hlen : len ≤ o.rows.length) (hy : Src P N env H y sz ys) (hne : 0 < ys.length) (h63 : len + ys.length ≤ 9223372036854775807) (hb : (len + ys.length) * bytes ≤ 140737488355328) (hm : m ≤ max cap (len + ys.length)) :
    V2 P N (.call { callee := .builtin .append, args := #[x, y], argTypes := #[t, t'] }) ty env H (.sl id (o.gen + 1) 0 (len + ys.length) m) (H.set id ⟨o.gen + 1, o.sz, o.rows.take len ++ ys⟩) := by
  intro dst pos after guard S a w hc next Q hnext _
  obtain ⟨news, hs⟩ := hy S a w hc
  obtain ⟨s, c, hsl, ok, hcc, hlc, h⟩ := hc.slc hx hid
  have hlt : id < S.length := (List.getElem?_eq_some_iff.1 hsl).1
  have hgen : s.gen = o.gen := ok.gen.symm
  have hssz : s.sz = sz := by rw [← ok.sz]; exact hsz
  have hnl := hs.cells.1
  rw [flat_length hs.wide] at hnl
  -- what grows into a new block
  have grown : ∀ (ad : Option Addr) (olds : Array Value), a.eval x = .slice ad len c → c < len + ys.length → (∀ w', w'.heap = w.heap → (Builtin.firstCells sz len (.slice ad len c)).run P w' = .ok olds w') →
      CellsR S w (o.rows.take len).flatten olds → (∀ r ∈ o.rows.take len, r.length = sz) → Oper.wp P ⟨dst, .call { callee := .builtin .append, args := #[x, y], argTypes := #[t, t'] }, ty, pos, after, guard⟩ a w next Q := by
    intro ad olds he hroom hold hco hwo
    obtain ⟨cap', rest, h1, h2, hr⟩ := run_append_out (P := P) (t := t) (t' := t') (e := e) (ty := ty) (sz := sz) (bytes := bytes) (agg := agg) (zs := zs) hs hold hroom h63 hb
    have hm := Made.drew_alloc w (olds ++ news ++ rest) e
    have hwide : ∀ r ∈ o.rows.take len ++ ys, r.length = sz := by
      intro r hr
      rcases List.mem_append.1 hr with h | h
      · exact hwo r h
      · exact hs.wide r h
    have hrow0 : RowOK (own S) S w sz (olds ++ news ++ rest) (o.rows.take len ++ ys) := RowOK.of_cells hwide (by rw [List.flatten_append]; exact hco.append hs.cells)
    have hx' : Ext S w (S.set id ⟨s.gen + 1, s.sz, some w.heap.size⟩) (w.drew.alloc (.cells (olds ++ news ++ rest) e)) := by
      refine ⟨hm.os, hm.tape, hm.output, ⟨by rw [hm.size]; omega, fun b hb' ho => ⟨fun k => ?_, hm.old b hb'⟩, fun b arr ty hb' => ⟨arr, by rw [hm.old b (Array.getElem?_eq_some_iff.1 hb').1]; exact hb', rfl⟩⟩, SExt.bump hsl (by simp)⟩
      obtain ⟨i, si, hi, hpi⟩ := k
      by_cases e1 : id = i
      · subst e1
        rw [List.getElem?_set_self hlt] at hi
        obtain rfl := Option.some.inj hi
        simp at hpi
        omega
      · rw [List.getElem?_set_ne e1] at hi
        exact ho ⟨i, si, hi, hpi⟩
    have hh := hc.heap.move (rows' := o.rows.take len ++ ys) hid hsl hx' (fun j sj hj hpj => by
        have := own_lt hc.heap ⟨j, sj, hj, hpj⟩
        omega) (fun j sj b' hj _ hpj => hm.old b' (own_lt hc.heap ⟨j, sj, hj, hpj⟩)) hm.new (by rw [hsz]; exact hrow0.mono hx'.stp hx'.slots)
    have hrun : (execOp a.eval ⟨dst, .call { callee := .builtin .append, args := #[x, y], argTypes := #[t, t'] }, ty, pos, after, guard⟩).run P w = .ok (.value (.slice (some ⟨w.heap.size, 0, none⟩) (len + ys.length) cap')) (w.drew.alloc (.cells (olds ++ news ++ rest) e)) := by
      simp [execOp, resolve, invoke, builtin, he, hr]
    unfold Oper.wp
    rw [hrun]
    refine hnext _ _ _ _ _ ⟨rfl, rfl⟩ hh hx' ?_
    refine .sl ⟨s.gen + 1, s.sz, some w.heap.size⟩ (List.getElem?_set_self hlt) (by simp [hgen]) rfl fun _ => ⟨cap', by omega, h1, .inr ⟨w.heap.size, _, _, rfl, by simp, hm.new, ?_⟩⟩
    have hol := hco.1
    rw [flat_length hwo] at hol
    simp only [Array.size_append, ← hnl, ← hol, h2, hn, List.length_take, Nat.min_eq_left hlen, ← Nat.add_mul, Nat.zero_add]
    rw [hssz]
    exact Nat.mul_le_mul_right _ (by omega)
  rcases h with ⟨h0, ad, he⟩ | ⟨b, arr, et, hp, he, hbl, hfit, hrow⟩
  · have el : len = 0 := by omega
    subst el
    subst h0
    refine grown ad #[] he (by omega) (fun w' _ => ?_) ⟨by simp, fun _ _ h => by simp at h⟩ (by simp)
    cases ad with
    | none => rfl
    | some ad => simp [Builtin.firstCells, loadCells, loadCellsFrom]
  · have hwo : ∀ r ∈ o.rows.take len, r.length = sz := by
      intro r hr
      obtain ⟨i, hi⟩ := List.mem_iff_getElem?.1 (List.mem_of_mem_take hr)
      rw [← hsz]
      exact (hrow.2 i r hi).1
    rw [Nat.zero_mul] at he
    rw [Nat.zero_add] at hfit
    by_cases hroom : len + ys.length ≤ c
    · -- in place
      have hr := run_append_in (P := P) (t := t) (t' := t') (e := e) (ty := ty) (agg := agg) hs (base := some ⟨b, 0, none⟩) hroom
      have hfit2 : len * sz + news.size ≤ arr.size := by
        rw [← hnl, ← Nat.add_mul]
        rw [hsz] at hfit
        exact Nat.le_trans (Nat.mul_le_mul_right _ hroom) hfit
      have hst := run_storeCells_at P b (len * sz) et news.toList 0 arr w hbl (by simpa using hfit2) hs.one
      simp only [Nat.add_zero, Array.length_toList] at hst
      have hsize : (arr.toList.take (len * sz) ++ news.toList ++ arr.toList.drop (len * sz + news.size)).toArray.size = arr.size := by
        simp
        omega
      have ho : own S b := ⟨id, s, hsl, hp⟩
      have hx' : Ext S w (S.set id ⟨s.gen + 1, s.sz, some b⟩) (w.setRow b (arr.toList.take (len * sz) ++ news.toList ++ arr.toList.drop (len * sz + news.size)).toArray) := by
        refine .of_row ho rfl rfl rfl (by simp) (fun k _ hk => setRow_other w b k _ hk) (fun a' t'' h' => ?_) (fun k hk hno k' => ?_) (SExt.bump hsl (by simp))
        · rw [hbl] at h'
          injection h' with h'
          injection h' with h1 h2
          subst h1; subst h2
          exact ⟨_, setRow_heap w b arr _ et (0, 0) hbl, hsize⟩
        · obtain ⟨i, si, hi, hpi⟩ := k'
          by_cases e1 : id = i
          · subst e1
            rw [List.getElem?_set_self hlt] at hi
            obtain rfl := Option.some.inj hi
            simp at hpi
            subst hpi
            exact hno ho
          · rw [List.getElem?_set_ne e1] at hi
            exact hno ⟨i, si, hi, hpi⟩
      have hwide : ∀ r ∈ o.rows.take len ++ ys, r.length = sz := by
        intro r hr
        rcases List.mem_append.1 hr with h | h
        · exact hwo r h
        · exact hs.wide r h
      have hrow' : RowOK (own S) S w sz (arr.toList.take (len * sz) ++ news.toList ++ arr.toList.drop (len * sz + news.size)).toArray (o.rows.take len ++ ys) := by
        have e1 : (arr.toList.take (len * sz) ++ news.toList ++ arr.toList.drop (len * sz + news.size)).toArray = (arr.toList.take (len * sz)).toArray ++ news ++ (arr.toList.drop (len * sz + news.size)).toArray := by
          simp
        rw [e1]
        refine RowOK.of_cells hwide ?_
        rw [List.flatten_append]
        refine CellsR.append ?_ hs.cells
        have hl2 : (o.rows.take len).flatten.length = len * sz := by rw [flat_length hwo, List.length_take, Nat.min_eq_left hlen]
        have hle : len * sz ≤ arr.size := by omega
        refine ⟨by rw [hl2]; simp; omega, fun k v hk => ?_⟩
        have hklt : k < len * sz := by rw [← hl2]; exact (List.getElem?_eq_some_iff.1 hk).1
        have hpos : 0 < sz := by rcases Nat.eq_zero_or_pos sz with e | e; · subst e; simp at hklt
                                 · exact e
        have hi : k / sz < (o.rows.take len).length := by rw [List.length_take, Nat.min_eq_left hlen]; exact (Nat.div_lt_iff_lt_mul hpos).2 hklt
        have hj : k % sz < sz := Nat.mod_lt _ hpos
        have hk' : k / sz * sz + k % sz = k := Nat.div_add_mod' k sz
        have h3 := flat_get hwo (List.getElem?_eq_getElem hi) hj
        rw [hk', hk] at h3
        have h4 : o.rows[k / sz]? = some (o.rows.take len)[k / sz] := by
          have := List.getElem?_eq_getElem hi
          rw [List.getElem?_take] at this
          split at this
          · exact this
          · cases this
        obtain ⟨k1, u, k2, k3⟩ := (hrow.2 _ _ h4).2 _ v h3.symm
        rw [hsz, hk'] at k2
        exact ⟨k1, u, by simp [hklt, k2], k3⟩
      have hh := hc.heap.move (rows' := o.rows.take len ++ ys) hid hsl hx' (fun j sj hj hpj => hc.heap.inj j id sj s b hj hsl hpj hp) (fun j sj b' hj hne' hpj => setRow_other w b b' _ (fun e => hne' (hc.heap.inj j id sj s b hj hsl (e ▸ hpj) hp)))
        (setRow_heap w b arr _ et (0, 0) hbl) (by rw [hsz]; exact hrow'.mono hx'.stp hx'.slots)
      have hrun : (execOp a.eval ⟨dst, .call { callee := .builtin .append, args := #[x, y], argTypes := #[t, t'] }, ty, pos, after, guard⟩).run P w = .ok (.value (.slice (some ⟨b, 0, none⟩) (len + ys.length) c)) (w.setRow b (arr.toList.take (len * sz) ++ news.toList ++ arr.toList.drop (len * sz + news.size)).toArray) := by
        simp only [add_none, Nat.zero_add, hst] at hr
        simp [execOp, resolve, invoke, builtin, he, hr]
      unfold Oper.wp
      rw [hrun]
      refine hnext _ _ _ _ _ ⟨rfl, rfl⟩ hh hx' ?_
      refine .sl ⟨s.gen + 1, s.sz, some b⟩ (List.getElem?_set_self hlt) (by simp [hgen]) rfl fun _ => ⟨c, by omega, by omega, .inr ⟨b, _, _, rfl, by simp, setRow_heap w b arr _ et (0, 0) hbl, ?_⟩⟩
      rw [hsize, hssz, Nat.zero_add, ← hsz]
      exact hfit
    · -- into a new block
      have hcell : ∀ k, k < len * sz → w.cell? ((⟨b, 0, none⟩ : Addr).add k) = some ((fun k => arr.getD k undef) k) := by
        intro k hk
        have : k < arr.size := by
          have h1 : len * o.sz ≤ c * o.sz := Nat.mul_le_mul_right _ hlc
          rw [hsz] at h1 hfit
          omega
        rw [add_none, cell_of_row w b _ arr _ _ hbl]
        simp [this]
      have hco : CellsR S w (o.rows.take len).flatten ((List.range ((o.rows.take len).length * sz)).map fun k => arr.getD k undef).toArray := flat_cells hwo fun i r hr j v hv' => by
        have h4 : o.rows[i]? = some r := by
          rw [List.getElem?_take] at hr
          split at hr
          · exact hr
          · cases hr
        obtain ⟨h1, u, h2, h3⟩ := (hrow.2 _ r h4).2 j v hv'
        refine ⟨h1, ?_⟩
        rw [hsz] at h2
        have e : arr.getD (i * sz + j) undef = u := by simp [h2]
        rw [e]
        exact h3
      rw [List.length_take, Nat.min_eq_left hlen] at hco
      exact grown (some ⟨b, 0, none⟩) _ he (by omega) (fun w' hw' => first_cells hcell w' hw') hco hwo
theorem o_append {t t' e : TypeId} {x y : Operand} {id len cap sz bytes : Nat} {agg : Bool} {zs : List AV} {o : AObj} {ys : List (List AV)} [hu : SlI P t e] [NiI P t'] [TyI P e agg sz] [hz : ZcI P e zs] [ByI P e bytes] (hn : zs.length = sz)
    (hx : aev env x = .sl id o.gen 0 len cap) (hid : H[id]? = some o) (hsz : o.sz = sz) (hlen : len ≤ o.rows.length) (hy : Src P N env H y sz ys) (hne : 0 < ys.length) (h63 : len + ys.length ≤ 9223372036854775807) (hb : (len + ys.length) * bytes ≤ 140737488355328) :
    V2 P N (.call { callee := .builtin .append, args := #[x, y], argTypes := #[t, t'] }) ty env H (.sl id (o.gen + 1) 0 (len + ys.length) (len + ys.length)) (H.set id ⟨o.gen + 1, o.sz, o.rows.take len ++ ys⟩) :=
  o_appendM (agg := agg) (e := e) (zs := zs) (bytes := bytes) hn hx hid hsz hlen hy hne h63 hb (Nat.le_max_right _ _)
theorem o_append0 {t t' e : TypeId} {x y : Operand} {id len cap sz : Nat} {agg : Bool} {o : AObj} [hu : SlI P t e] [NiI P t'] [TyI P e agg sz]
    (hx : aev env x = .sl id o.gen 0 len cap) (hid : H[id]? = some o) (hy : Src P N env H y sz []) :
    V2 P N (.call { callee := .builtin .append, args := #[x, y], argTypes := #[t, t'] }) ty env H (.sl id o.gen 0 len cap) H := by
  intro dst pos after guard S a w hc next Q hnext _
  obtain ⟨news, hs⟩ := hy S a w hc
  have hv := hc.ev x
  rw [hx] at hv
  have hnews : news = #[] := by
    have := hs.cells.1
    simp at this
    exact Array.size_eq_zero_iff.1 this.symm
  subst hnews
  have hsl : ∃ ad c, a.eval x = .slice ad len c ∧ len ≤ c := by
    obtain ⟨s, c, hsl, ok, hcc, hlc, h⟩ := hc.slc hx hid
    rcases h with ⟨h0, ad, he⟩ | ⟨b, arr, et, hp, he, hbl, hfit, hrow⟩
    · have : len = 0 := by omega
      subst this
      exact ⟨ad, 0, he, Nat.le_refl _⟩
    · exact ⟨_, c, he, hlc⟩
  obtain ⟨ad, c, he, hlc⟩ := hsl
  have hr := run_append_in (P := P) (t := t) (t' := t') (e := e) (ty := ty) (agg := agg) hs (base := ad) (len := len) (c := c) (by simpa using hlc)
  have hrun : (execOp a.eval ⟨dst, .call { callee := .builtin .append, args := #[x, y], argTypes := #[t, t'] }, ty, pos, after, guard⟩).run P w = .ok (.value (.slice ad len c)) w := by
    cases ad <;> simp [execOp, resolve, invoke, builtin, he, hr, storeCells]
  unfold Oper.wp
  rw [hrun]
  rw [he] at hv
  exact hnext _ _ _ _ _ ⟨rfl, rfl⟩ hc.heap (Ext.refl S w) hv
end
end Go.Av

/-
  Calls, conversions between bytes and texts, comparisons with nil, panics; and the steps that are the proof's own: a row that is no longer written becomes a list, a nil slice is given a row.
-/
namespace Go.Av

section
variable {P : Program} {N : Nat} {B : Base} {Q : Post} {env : Env} {H : Heap} {ty : TypeId} {ops : Array Oper} {rest : List Oper}

/-! ### Calls -/
theorem evs_ok {S : List Slot} {a : Act} {w : World} (hc : CR N env H S a w) (xs : Array Operand) : VRs (own S) w S (xs.toList.map (aev env)) (xs.map a.eval) := by
  refine ⟨by simp, fun i v u hv hu => ?_⟩
  simp only [List.getElem?_map, Array.getElem?_map] at hv hu
  cases hx : xs[i]? with
  | none => simp [hx] at hu
  | some x =>
    have hx' : xs.toList[i]? = some x := by simpa using hx
    rw [hx'] at hv
    rw [hx] at hu
    obtain rfl := Option.some.inj hv
    obtain rfl := Option.some.inj hu
    exact hc.ev x

/-- The function has a body, and is called as1 it is. -/
class FnI (P : Program) (f : FuncId) : Prop where
  ok : (match P.funcs[f]? with | some fn => !(fn.name == "runtime.NumGoroutine") && fn.body.isSome | none => false) = true
theorem run_callFunc {f : FuncId} [h : FnI P f] (args : Array Value) (w : World) : (callFunc f args).run P w = .ok (.enter f args) w := by
  have hk := h.ok
  cases hf : P.funcs[f]? with
  | none => simp [hf] at hk
  | some fn =>
    rw [hf] at hk
    simp at hk
    cases hb : fn.body with
    | none => simp [hb] at hk
    | some c => simp [callFunc, hf, hk, hb]

theorem AOp.call {o : Oper} {f : FuncId} {vs : List AV} {R : AOut → Heap → Prop} (hc : ∀ S a w, CR N env H S a w → ∃ args, (execOp a.eval o).run P w = .ok (.enter f args) w ∧ VRs (own S) w S vs args) (hac : AC P f vs H R) :
    AOp P N o env H (fun v H' => R (.ret v) H') (fun v H' => R (.pan v) H') := by
  intro S a w hcr next Q hnext hpan
  obtain ⟨args, hr, hv⟩ := hc S a w hcr
  unfold Oper.wp
  rw [hr]
  refine (hac S w args hcr.heap hv).mono ?_
  rintro e w' ⟨out, H', S', hR, hout, hh, hx⟩
  cases hout with
  | ret hv => exact hnext _ _ H' S' w' hR hh hx hv
  | pan hv => exact hpan _ _ H' S' w' hR hh hx hv

/-- A call of a function by its name. -/
theorem ao_call {d f : Nat} {xs : Array Operand} {ts : Array TypeId} {pos : String} {after : Array Edge} {R : AOut → Heap → Prop} {vs : List AV} [FnI P f] (hvs : xs.toList.map (aev env) = vs) (hd : d < N) (hac : AC P f vs H R)
    (hK : ∀ v H', R (.ret v) H' → AOps P N B ops rest Q ((d, v) :: env) H') (hX : ∀ v H', R (.pan v) H' → Q (.pan v) env H') :
    AOps P N B ops (⟨some d, .call { callee := .value (.func f), args := xs, argTypes := ts }, ty, pos, after, none⟩ :: rest) Q env H := by
  subst hvs
  refine ao_cons rfl (by rintro _ ⟨⟩; exact hd) (AOp.call (fun S a w hc => ⟨xs.map a.eval, ?_, evs_ok hc xs⟩) hac) hK hX
  simp [execOp, resolve, Act.eval, Deferred.ofValue, invoke, run_callFunc (P := P) (f := f)]
/-- A call that has no result slot. -/
theorem ao_call0 {f : Nat} {xs : Array Operand} {ts : Array TypeId} {pos : String} {after : Array Edge} {R : AOut → Heap → Prop} {vs : List AV} [FnI P f] (hvs : xs.toList.map (aev env) = vs) (hac : AC P f vs H R)
    (hK : ∀ v H', R (.ret v) H' → AOps P N B ops rest Q env H') (hX : ∀ v H', R (.pan v) H' → Q (.pan v) env H') :
    AOps P N B ops (⟨none, .call { callee := .value (.func f), args := xs, argTypes := ts }, ty, pos, after, none⟩ :: rest) Q env H := by
  subst hvs
  refine ao_cons rfl (by rintro _ ⟨⟩) (AOp.call (fun S a w hc => ⟨xs.map a.eval, ?_, evs_ok hc xs⟩) hac) hK hX
  simp [execOp, resolve, Act.eval, Deferred.ofValue, invoke, run_callFunc (P := P) (f := f)]

theorem VRs.append {O : Nat → Prop} {w : World} {S : List Slot} {vs us : List AV} {p q : Array Value} (h : VRs O w S vs p) (k : VRs O w S us q) : VRs O w S (vs ++ us) (p ++ q) := by
  refine ⟨by simp [h.1, k.1], fun i v u hv hu => ?_⟩
  by_cases hi : i < vs.length
  · rw [List.getElem?_append_left hi] at hv
    rw [Array.getElem?_append_left (by rw [← h.1]; exact hi)] at hu
    exact h.2 i v u hv hu
  · rw [List.getElem?_append_right (by omega)] at hv
    rw [Array.getElem?_append_right (by rw [← h.1]; omega), ← h.1] at hu
    exact k.2 _ v u hv hu

/-- A call of a function value. -/
theorem ao_callv {d f : Nat} {x : Operand} {xs : Array Operand} {ts : Array TypeId} {pos : String} {after : Array Edge} {R : AOut → Heap → Prop} {ps qs vs : List AV} [FnI P f] (hx : aev env x = .fn (.func f) ps qs) (hvs : ps ++ xs.toList.map (aev env) ++ qs = vs) (hd : d < N) (hac : AC P f vs H R)
    (hK : ∀ v H', R (.ret v) H' → AOps P N B ops rest Q ((d, v) :: env) H') (hX : ∀ v H', R (.pan v) H' → Q (.pan v) env H') :
    AOps P N B ops (⟨some d, .call { callee := .value x, args := xs, argTypes := ts }, ty, pos, after, none⟩ :: rest) Q env H := by
  subst hvs
  refine ao_cons rfl (by rintro _ ⟨⟩; exact hd) (AOp.call (fun S a w hc => ?_) hac) hK hX
  have hv := hc.ev x
  rw [hx] at hv
  generalize he : a.eval x = u at hv
  cases hv with
  | @fn _ _ _ _ p' q' hp hq h1 h2 =>
    refine ⟨p' ++ xs.map a.eval ++ q', ?_, (VRs.append (VRs.append ⟨hp, h1⟩ (evs_ok hc xs)) ⟨hq, h2⟩)⟩
    simp [execOp, resolve, he, Deferred.ofValue, invoke, run_callFunc (P := P) (f := f)]

/-! ### Bytes and texts -/
theorem o_bytesStr {x : Operand} {s d : TypeId} {e : TypeId} {bs : List UInt8} [hs : SlI P s e] [he : UdI P e (.int .u8)] [hd : UdI P d .string] (hx : aev env x = .pl (bs.map brow)) : V1 P N (.convert s d x) ty env H (.str ⟨bs.toArray⟩) := by
  intro S a w hc
  have hv := hc.ev x
  rw [hx] at hv
  generalize hxe : a.eval x = u at hv
  cases hv with
  | @pl _ _ ad c base z u hcap hb hsz hm hl hv =>
    refine ⟨.string ⟨bs.toArray⟩, fun _ _ _ _ => ?_, .str⟩
    have hrun : (convert s d (.slice ad (bs.map brow).length c)).run P w = .ok (.string ⟨bs.toArray⟩) w := by
      by_cases hne : bs = []
      · subst hne
        rw [run_convert_bytes_string w s d e ad _ c hs.ud he.ud hd.ud]
        cases ad with
        | none => rfl
        | some ad =>
          exact run_bytesToString (P := P) w ad 0 c [] (by simp [loadCells, loadCellsFrom])
      · obtain ⟨k1, k2, k3⟩ := hb (by simpa using hne)
        subst k1
        rw [List.length_map]
        refine run_convert_bytes_back w s d e base c bs hs.ud he.ud hd.ud fun j hj => ?_
        have hr : (bs.map brow)[j]? = some (brow bs[j]) := by simp [hj]
        have hz : z = 1 := by rw [← hsz j _ hr]; rfl
        subst hz
        have h1 := hm j (by simpa using hj) 0 (by omega)
        have h2 := hv j 0 _ _ hr (show (brow bs[j])[0]? = some (.int .u8 (bs[j].toNat : Int)) from rfl)
        generalize u j 0 = y at h1 h2
        cases h2
        simpa using h1
    simp [execOp, hxe]
    simp at hrun
    rw [hrun]
    simp
theorem o_bytesStr_nsl {x : Operand} {s d : TypeId} {e : TypeId} [hs : SlI P s e] [he : UdI P e (.int .u8)] [hd : UdI P d .string] (hx : aev env x = .nsl) : V1 P N (.convert s d x) ty env H (.str ⟨#[]⟩) := by
  intro S a w hc
  have hv := hc.ev x
  rw [hx] at hv
  generalize hxe : a.eval x = u at hv
  cases hv with
  | @nsl _ ad =>
    refine ⟨.string ⟨#[]⟩, fun _ _ _ _ => ?_, .str⟩
    have hrun : (convert s d (.slice ad 0 0)).run P w = .ok (.string ⟨#[]⟩) w := by
      rw [run_convert_bytes_string w s d e ad _ 0 hs.ud he.ud hd.ud]
      cases ad with
      | none => rfl
      | some ad =>
        exact run_bytesToString (P := P) w ad 0 0 [] (by simp [loadCells, loadCellsFrom])
    simp [execOp, hxe, hrun]

theorem o_strBytes {x : Operand} {s d e : TypeId} {str : ByteArray} [hs : UdI P s .string] [hd : SlI P d e] [he : UdI P e (.int .u8)] (hx : aev env x = .str str) : V2 P N (.convert s d x) ty env H (.pl (str.data.toList.map brow)) H := by
  intro dst pos after guard S a w hc next Q hnext _
  have hcap := grownCap_ge w str.size 0 e
  have hrun : ∃ w', (execOp a.eval ⟨dst, .convert s d x, ty, pos, after, guard⟩).run P w = .ok (.value (.slice (some ⟨w.heap.size, 0, none⟩) str.size (grownCap w str.size 0 e))) w' ∧ w'.os = w.os ∧ w'.tape = w.tape ∧ w'.output = w.output ∧ w'.heap.size = w.heap.size + 1 ∧
      (∀ b, b < w.heap.size → w'.heap[b]? = w.heap[b]?) ∧ ∀ (j : Nat) (b : UInt8), str.data.toList[j]? = some b → w'.cell? ⟨w.heap.size, j, none⟩ = some (.int .u8 (b.toNat : Int)) := by
    have hr := run_bytes_of_string (P := P) w s d e str hs.ud hd.ud he.ud
    refine ⟨w.drew.alloc (.cells (bytesRow str (grownCap w str.size 0 e)) e ((bytesRow str (grownCap w str.size 0 e)).size, (bytesRow str (grownCap w str.size 0 e)).size + 1)), by simp only [execOp, ev_str hc hx, Sem.run_bind, hr, Result.andThen_ok, Sem.run_pure], rfl, rfl, rfl, by simp, fun b hb => (by first | exact heap_alloc_old w.drew _ b hb | exact heap_alloc_old w.drew _ hb), fun j b hj => ?_⟩
    have hj' : str.data[j]? = some b := by simpa using hj
    have hlt := (Array.getElem?_eq_some_iff.1 hj').1
    have h1 := World.cell?_alloc_mark w.drew (bytesRow str (grownCap w str.size 0 e)) e ((bytesRow str (grownCap w str.size 0 e)).size, (bytesRow str (grownCap w str.size 0 e)).size + 1) j
    rw [World.size_drew] at h1
    rw [h1]
    unfold bytesRow
    rw [Array.getElem?_append_left (by simpa using hlt)]
    simp [hj']
  obtain ⟨w', hr, hos, htape, hout, hsize, hold, hcell⟩ := hrun
  have hx' : Ext S w S w' := ⟨hos, htape, hout, ⟨by omega, fun b hb ho => ⟨ho, hold b hb⟩, fun b arr ty hb => ⟨arr, by rw [hold b (Array.getElem?_eq_some_iff.1 hb).1]; exact hb, rfl⟩⟩, SExt.refl S⟩
  unfold Oper.wp
  rw [hr]
  refine hnext _ _ _ _ _ ⟨rfl, rfl⟩ (same_heap hc.heap hx' hold) hx' ?_
  have hlen : (str.data.toList.map brow).length = str.size := by simp
  have hget : ∀ (i : Nat) (r : List AV), (str.data.toList.map brow)[i]? = some r → ∃ b, str.data.toList[i]? = some b ∧ r = brow b := by
    intro i r hr
    rw [List.getElem?_map] at hr
    cases hi : str.data.toList[i]? with
    | none => simp [hi] at hr
    | some b => rw [hi] at hr; exact ⟨b, rfl, (Option.some.inj hr).symm⟩
  rw [← hlen]
  refine .pl ⟨w.heap.size, 0, none⟩ 1 (fun i _ => .int .u8 ((str.data.toList.getD i 0).toNat : Int)) (by rw [hlen]; exact hcap) (fun _ => ⟨rfl, fun k => ?_, by simp [hsize]⟩) (fun i r hr => ?_) (fun i hi j hj => ?_) (fun i j r v hr hv => ?_) (fun i j r v hr hv => ?_)
  · have := own_lt hc.heap k
    simp at this
  · obtain ⟨b, _, rfl⟩ := hget i r hr; rfl
  · obtain rfl : j = 0 := by omega
    have hi' : i < str.data.toList.length := by simpa using hi
    have := hcell i _ (List.getElem?_eq_getElem hi')
    rw [add_none]
    simp only [Nat.zero_add, Nat.mul_one, Nat.add_zero]
    rw [this, List.getD_eq_getElem?_getD, List.getElem?_eq_getElem hi']
    rfl
  · obtain ⟨b, _, rfl⟩ := hget i r hr
    cases j with
    | zero => simp [brow] at hv; subst hv; rfl
    | succ j => simp [brow] at hv
  · obtain ⟨b, hb, rfl⟩ := hget i r hr
    cases j with
    | zero => simp [brow] at hv; subst hv; simp [List.getD, hb]; exact .int
    | succ j => simp [brow] at hv

/-! ### Comparisons with nil -/
theorem run_equal_slice_nil {t e : TypeId} [hu : SlI P t e] (a : Option Addr) (l c : Nat) (w : World) : (Op.equal t (.slice a l c) (.slice none 0 0)).run P w = .ok a.isNone w := by
  show (Op.equalIn (9999 + 1) t _ _).run P w = _
  rw [Op.equalIn]
  cases a <;> simp [run_und hu.ud]
/-- A slice against nil: whether it is nil is not known where it is empty. -/
theorem o_eqNil {t t' e : TypeId} {x y : Operand} {xs : List (List AV)} [hu : SlI P t e] (hx : aev env x = .pl xs) (hy : y = .const (.slice none 0 0)) (dst : Option Nat) (pos : String) (after : Array Edge) (guard : Option (Nat × Bool)) :
    AOp P N ⟨dst, .binOp .eql t x y t', ty, pos, after, guard⟩ env H (fun v H' => ∃ b, v = .bool b ∧ (xs ≠ [] → b = false) ∧ H' = H) (fun _ _ => False) := by
  intro S a w hc next Q hnext _
  subst hy
  have hv := hc.ev x
  rw [hx] at hv
  generalize he : a.eval x = u at hv
  cases hv with
  | @pl _ _ ad c base z u hcap hb hs hm hl hv =>
    have hr : (execOp a.eval ⟨dst, .binOp .eql t x (.const (.slice none 0 0)) t', ty, pos, after, guard⟩).run P w = .ok (.value (.bool ad.isNone)) w := by
      have hbo : binOp .eql t (.slice ad xs.length c) (.slice none 0 0) = (do pure (.bool (← Op.equal t (.slice ad xs.length c) (.slice none 0 0)))) := rfl
      have hco : a.eval (.const (.slice none 0 0)) = .slice none 0 0 := rfl
      simp [execOp, he, hco, eqGuard, hbo, run_equal_slice_nil (P := P) (t := t)]
    unfold Oper.wp
    rw [hr]
    exact hnext (.bool ad.isNone) _ H S w ⟨_, rfl, fun hne => by rw [(hb hne).1]; rfl, rfl⟩ hc.heap (Ext.refl S w) .bool

/-! ### Panics -/
theorem ao_panic {d : Option Nat} {x : Operand} {pos : String} {after : Array Edge} {t : TypeId} {v : AV} (hx : aev env x = .ifc t v) (h : Q (.pan (.ifc t v)) env H) (hd : ∀ t, d = some t → t < N) :
    AOps P N B ops (⟨d, .panic x, ty, pos, after, none⟩ :: rest) Q env H := by
  refine ao_cons rfl hd (K := fun _ _ => False) (X := fun v' H' => v' = .ifc t v ∧ H' = H) ?_ (fun _ _ h => h.elim) (by rintro _ _ ⟨rfl, rfl⟩; exact h)
  intro S a w hc next Q' _ hpan
  have hv := hc.ev x
  rw [hx] at hv
  generalize he : a.eval x = u at hv
  cases hv with
  | @ifc _ _ _ u h =>
    have hr : (execOp a.eval ⟨d, .panic x, ty, pos, after, none⟩).run P w = .halt (.panic (.iface t u)) w := by simp [execOp, he, Instr.panic]
    unfold Oper.wp
    rw [hr]
    exact hpan (.ifc t v) (.iface t u) H S w ⟨rfl, rfl⟩ hc.heap (Ext.refl S w) (.ifc h)

/-! ### Steps of the proof's own -/
/-- No row is named in it. -/
abbrev AV.pur (v : AV) : Bool := v.bel 0

theorem VR.pur {O : Nat → Prop} {w : World} {S : List Slot} {v : AV} {u : Value} (h : VR O w S v u) (hp : v.pur = true) : VR O w [] v u := by
  have := h.take (O' := O) (n := 0) (fun _ h => h) hp
  simpa using this

/-- A row that is no longer written becomes a list. -/
theorem CR.freeze {S : List Slot} {a : Act} {w : World} {t id off len cap : Nat} {o : AObj} {ys : List (List AV)} (h : CR N env H S a w) (k : Ext B.S B.w S w) (ht : get env t = .sl id o.gen off len cap) (hid : H[id]? = some o)
    (hys : (o.rows.drop off).take len = ys) (hlen : ys.length = len) (hp : ∀ r ∈ ys, AV.bels 0 r = true) :
    ∃ S', CR N ((t, .pl ys) :: env) (H.set id ⟨o.gen + 1, o.sz, []⟩) S' a w ∧ Ext B.S B.w S' w := by
  obtain ⟨s, hs, ok⟩ := h.heap.slot hid
  have hlt : id < S.length := (List.getElem?_eq_some_iff.1 hs).1
  have hltH : id < H.length := (List.getElem?_eq_some_iff.1 hid).1
  have hown : ∀ b, ¬ own S b → ¬ own (S.set id ⟨s.gen + 1, s.sz, none⟩) b := by
    intro b hb ⟨i, si, hi, hpi⟩
    by_cases e : id = i
    · subst e
      rw [List.getElem?_set_self hlt] at hi
      obtain rfl := Option.some.inj hi
      cases hpi
    · rw [List.getElem?_set_ne e] at hi
      exact hb ⟨i, si, hi, hpi⟩
  have hx : Ext S w (S.set id ⟨s.gen + 1, s.sz, none⟩) w := ⟨rfl, rfl, rfl, ⟨Nat.le_refl _, fun b _ ho => ⟨hown b ho, rfl⟩, fun _ arr _ h => ⟨arr, h, rfl⟩⟩, SExt.bump hs (by simp)⟩
  have hh : HRel (H.set id ⟨o.gen + 1, o.sz, []⟩) (S.set id ⟨s.gen + 1, s.sz, none⟩) w := by
    refine ⟨by simpa using h.heap.len, fun id' o' s' ho' hs' => ?_, fun i j si sj b hi hj hbi hbj => ?_⟩
    · by_cases e : id = id'
      · subst e
        rw [List.getElem?_set_self hlt] at hs'
        rw [List.getElem?_set_self hltH] at ho'
        obtain rfl := Option.some.inj hs'
        obtain rfl := Option.some.inj ho'
        exact ⟨by simp [ok.gen], ok.sz, ok.pos, fun _ => rfl, fun b hb => by cases hb⟩
      · rw [List.getElem?_set_ne e] at ho' hs'
        have ok' := h.heap.obj id' o' s' ho' hs'
        refine ⟨ok'.gen, ok'.sz, ok'.pos, ok'.nope, fun b hb => ?_⟩
        obtain ⟨arr, ty', h1, h2⟩ := ok'.row hb
        exact ⟨arr, ty', h1, (h2.mono hx.stp hx.slots).1, (h2.mono hx.stp hx.slots).2⟩
    · by_cases ei : id = i
      · subst ei
        rw [List.getElem?_set_self hlt] at hi
        obtain rfl := Option.some.inj hi
        cases hbi
      · by_cases ej : id = j
        · subst ej
          rw [List.getElem?_set_self hlt] at hj
          obtain rfl := Option.some.inj hj
          cases hbj
        · rw [List.getElem?_set_ne ei] at hi
          rw [List.getElem?_set_ne ej] at hj
          exact h.heap.inj i j si sj b hi hj hbi hbj
  have hc := h.step hx hh
  refine ⟨_, ⟨hh, fun t' => ?_, h.size, h.defers⟩, k.trans hx⟩
  by_cases e : t = t'
  · subst e
    rw [get_put_same]
    have hv := h.env t
    rw [ht] at hv
    generalize a.tmps.getD t undef = u at hv
    cases hv with
    | sl s' hs' hg h1 hsl =>
      rw [hs] at hs'
      obtain rfl := Option.some.inj hs'
      obtain ⟨c, hc1, hc2, hsl⟩ := hsl ok.gen.symm
      have hget : ∀ i r, ys[i]? = some r → o.rows[off + i]? = some r ∧ i < len := by
        intro i r hr
        have hi : i < len := by rw [← hlen]; exact (List.getElem?_eq_some_iff.1 hr).1
        rw [← hys, List.getElem?_take, if_pos hi, List.getElem?_drop] at hr
        exact ⟨hr, hi⟩
      rcases hsl with ⟨h0, ad, rfl⟩ | ⟨b, arr, et, hpl, rfl, hb, hfit⟩
      · have el : len = 0 := by omega
        subst el
        have : ys = [] := List.eq_nil_of_length_eq_zero hlen
        subst this
        exact .pl (xs := []) default 0 (fun _ _ => undef) (Nat.zero_le _) (fun h => absurd rfl h) (fun _ _ h => by simp at h) (fun _ h => by simp at h) (fun _ _ _ _ h => by simp at h) (fun _ _ _ _ h => by simp at h)
      · obtain ⟨arr', ty', h1', h2'⟩ := ok.row hpl
        rw [hb] at h1'
        injection h1' with h1'
        injection h1' with h1' h1''
        subst h1'
        have hno : ¬ own (S.set id ⟨s.gen + 1, s.sz, none⟩) b := by
          rintro ⟨i, si, hi, hpi⟩
          by_cases e : id = i
          · subst e
            rw [List.getElem?_set_self hlt] at hi
            obtain rfl := Option.some.inj hi
            cases hpi
          · rw [List.getElem?_set_ne e] at hi
            exact e (h.heap.inj id i s si b hs hi hpl hpi)
        rw [← hlen]
        refine .pl ⟨b, off * s.sz, none⟩ s.sz (fun i j => arr.getD ((off + i) * s.sz + j) undef) (by omega) (fun _ => ⟨rfl, hno, (Array.getElem?_eq_some_iff.1 hb).1⟩) (fun i r hr => by rw [← ok.sz]; exact (h2'.2 _ r (hget i r hr).1).1) (fun i hi j hj => ?_) (fun i j r v hr hv => ((h2'.2 _ r (hget i r hr).1).2 j v hv).1) (fun i j r v hr hv => ?_)
        · have hlt2 : (off + i) * s.sz + j < arr.size := by
            have h3 : (off + i) * s.sz + s.sz ≤ (off + c) * s.sz := by rw [← Nat.succ_mul]; exact Nat.mul_le_mul_right _ (by omega)
            omega
          rw [add_none, cell_of_row w b _ arr _ _ hb, show off * s.sz + (i * s.sz + j) = (off + i) * s.sz + j by rw [Nat.add_mul]; omega]
          simp [hlt2]
        · obtain ⟨hlf, u, hu, hvr⟩ := (h2'.2 _ r (hget i r hr).1).2 j v hv
          rw [ok.sz] at hu
          have : arr.getD ((off + i) * s.sz + j) undef = u := by simp [hu]
          rw [this]
          exact (hvr.pur (AV.bels_get (hp r (List.mem_of_getElem? hr)) hv)).mono hx.stp (SExt.refl _)
  · rw [get_put_other _ _ e]
    exact (h.env t').ext hx
theorem aw_freeze {c : Code} {id off len cap : Nat} {o : AObj} {ys : List (List AV)} (t : Nat) (ht : get env t = .sl id o.gen off len cap) (hid : H[id]? = some o)
    (hys : (o.rows.drop off).take len = ys) (hlen : ys.length = len) (hp : ∀ r ∈ ys, AV.bels 0 r = true) (h : AWp P N B c Q ((t, .pl ys) :: env) (H.set id ⟨o.gen + 1, o.sz, []⟩)) : AWp P N B c Q env H := fun _ a w hc hb =>
  let ⟨S', hc', hb'⟩ := hc.freeze hb ht hid hys hlen hp
  h S' a w hc' hb'

/-- A nil slice is given a row. -/
theorem CR.ghost {S : List Slot} {a : Act} {w : World} {t sz : Nat} (h : CR N env H S a w) (k : Ext B.S B.w S w) (ht : get env t = .nsl) (hp : 0 < sz) :
    ∃ S', CR N ((t, .sl H.length 0 0 0 0) :: env) (H ++ [⟨0, sz, []⟩]) S' a w ∧ Ext B.S B.w S' w := by
  have hx : Ext S w (S ++ [⟨0, sz, none⟩]) w := by
    refine ⟨rfl, rfl, rfl, ⟨Nat.le_refl _, fun b _ ho => ⟨fun k => ?_, rfl⟩, fun _ arr _ h => ⟨arr, h, rfl⟩⟩, SExt.snoc S _⟩
    rcases own_snoc k with k | k
    · exact ho k
    · cases k
  have hh : HRel (H ++ [⟨0, sz, []⟩]) (S ++ [⟨0, sz, none⟩]) w := h.heap.push (s := ⟨0, sz, none⟩) hx hp (fun _ _ => rfl) (fun _ => rfl) (fun b hb => by cases hb)
  refine ⟨_, ⟨hh, fun t' => ?_, h.size, h.defers⟩, k.trans hx⟩
  by_cases e : t = t'
  · subst e
    rw [get_put_same]
    have hv := h.env t
    rw [ht] at hv
    generalize a.tmps.getD t undef = u at hv
    cases hv with
    | @nsl _ ad =>
      exact .sl ⟨0, sz, none⟩ (by rw [h.heap.len]; exact SExt.last S _) (Nat.le_refl _) rfl fun _ => ⟨0, Nat.le_refl _, Nat.le_refl _, .inl ⟨rfl, ad, rfl⟩⟩
  · rw [get_put_other _ _ e]
    exact (h.env t').ext hx
theorem aw_ghost {c : Code} (t sz : Nat) (ht : get env t = .nsl) (hp : 0 < sz) (h : AWp P N B c Q ((t, .sl H.length 0 0 0 0) :: env) (H ++ [⟨0, sz, []⟩])) : AWp P N B c Q env H := fun _ a w hc hb =>
  let ⟨S', hc', hb'⟩ := hc.ghost hb ht hp
  h S' a w hc' hb'
/-- A slice with nothing in it is an empty list. -/
theorem aw_nslpl {c : Code} (t : Nat) (ht : get env t = .nsl) (h : AWp P N B c Q ((t, .pl []) :: env) H) : AWp P N B c Q env H := fun S a w hc hb => by
  refine h S a w ⟨hc.heap, fun t' => ?_, hc.size, hc.defers⟩ hb
  by_cases e : t = t'
  · subst e
    rw [get_put_same]
    have hv := hc.env t
    rw [ht] at hv
    generalize a.tmps.getD t undef = u at hv
    cases hv with
    | @nsl _ ad => exact .pl (xs := []) default 0 (fun _ _ => undef) (Nat.zero_le _) (fun h => absurd rfl h) (fun _ _ h => by simp at h) (fun _ h => by simp at h) (fun _ _ _ _ h => by simp at h) (fun _ _ _ _ h => by simp at h)
  · rw [get_put_other _ _ e]
    exact hc.env t'
end
end Go.Av

/-
  FROM A BODY TO A CALL: results that are temporaries or variables; what is made on the way is forgotten where the call ends.
-/
namespace Go.Av

/-- What a result variable holds where the call ends. -/
inductive ResV (P : Program) (env : Env) (H : Heap) : ResultVar → AV → Prop where
  | tmp {t : Nat} {v : AV} (h : get env t = v) : ResV P env H (.tmp t) v
  | cell1 {p t id i j sz : Nat} {o : AObj} {r : List AV} {v : AV} (ty : TyI P t false sz) (h : get env p = .pt id o.gen i j) (hid : H[id]? = some o) (hr : o.rows[i]? = some r) (hv : r[j]? = some v) : ResV P env H (.cell p t) v
  | cellN {p t id i j sz : Nat} {o : AObj} {r cs : List AV} (ty : TyI P t true sz) (h : get env p = .pt id o.gen i j) (hid : H[id]? = some o) (hr : o.rows[i]? = some r) (hv : (r.drop j).take sz = cs) (hn : cs.length = sz) : ResV P env H (.cell p t) (.agg cs)

inductive ResVs (P : Program) (env : Env) (H : Heap) : List ResultVar → List AV → Prop where
  | nil : ResVs P env H [] []
  | cons {r : ResultVar} {rs : List ResultVar} {v : AV} {vs : List AV} (h : ResV P env H r v) (k : ResVs P env H rs vs) : ResVs P env H (r :: rs) (v :: vs)

def tupv : List AV → AV
  | [v] => v
  | vs => .tup vs

/-- What is still known where the call ends: the memory H may be taken for M. -/
def FitV (B : Base) (v : AV) (H M : Heap) : Prop := H = M ∨ ∃ G, H = M ++ G ∧ B.S.length ≤ M.length ∧ v.bel M.length = true ∧ HBel M.length M

def Ends (P : Program) (B : Base) (rs : List ResultVar) (R : AOut → Heap → Prop) : Post
  | .nrm, e, H | .ret, e, H => ∃ vs M, ResVs P e H rs vs ∧ FitV B (tupv vs) H M ∧ R (.ret (tupv vs)) M
  | .pan v, _, H => ∃ M, FitV B v H M ∧ R (.pan v) M
  | .brk _, _, _ => False

section
variable {P : Program} {N : Nat} {B : Base} {Q : Post} {env : Env} {H : Heap}

theorem ResV.run {S : List Slot} {a : Act} {w : World} (hc : CR N env H S a w) {r : ResultVar} {v : AV} (h : ResV P env H r v) : ∃ u, (match r with
    | .tmp t => pure (a.tmps.getD t undef)
    | .cell p t => do loadVar t (← asAddr (a.tmps.getD p undef)) : Sem Value).run P w = .ok u w ∧ VR (own S) w S v u := by
  cases h with
  | @tmp t v h => exact ⟨a.tmps.getD t undef, rfl, h ▸ hc.env t⟩
  | @cell1 p t id i j sz o r v ty h hid hr hv =>
    have h1 := o_load1 (P := P) (N := N) (env := env) (H := H) (ty := 0) (t := t) (x := .tmp p) (sz := sz) h hid hr hv
    obtain ⟨u, k1, k2⟩ := h1 S a w hc
    have k3 := k1 none "" #[] none
    obtain ⟨s, b, arr, et, hs, hp, he, hb, hrow⟩ := hc.ptr (x := .tmp p) h hid
    refine ⟨u, ?_, k2⟩
    have he' : a.tmps.getD p undef = .pointer (some ⟨b, i * o.sz + j, none⟩) := he
    simp only [execOp, he, Instr.loadAt, Instr.sureAddr, Sem.run_bind, Sem.run_pure, Result.andThen_ok] at k3
    simp only [he', asAddr, Sem.run_bind, Sem.run_pure, Result.andThen_ok]
    cases hq : (loadVar t ⟨b, i * o.sz + j, none⟩).run P w with
    | ok x w' =>
      rw [hq] at k3
      simp only [Result.andThen_ok, Result.ok.injEq, Next.value.injEq] at k3
      rw [k3.1, k3.2]
    | halt x w' => rw [hq] at k3; cases k3
  | @cellN p t id i j sz o r cs ty h hid hr hv hn =>
    have h1 := o_loadN (P := P) (N := N) (env := env) (H := H) (ty := 0) (t := t) (x := .tmp p) (sz := sz) h hid hr hv hn
    obtain ⟨u, k1, k2⟩ := h1 S a w hc
    have k3 := k1 none "" #[] none
    obtain ⟨s, b, arr, et, hs, hp, he, hb, hrow⟩ := hc.ptr (x := .tmp p) h hid
    refine ⟨u, ?_, k2⟩
    have he' : a.tmps.getD p undef = .pointer (some ⟨b, i * o.sz + j, none⟩) := he
    simp only [execOp, he, Instr.loadAt, Instr.sureAddr, Sem.run_bind, Sem.run_pure, Result.andThen_ok] at k3
    simp only [he', asAddr, Sem.run_bind, Sem.run_pure, Result.andThen_ok]
    cases hq : (loadVar t ⟨b, i * o.sz + j, none⟩).run P w with
    | ok x w' =>
      rw [hq] at k3
      simp only [Result.andThen_ok, Result.ok.injEq, Next.value.injEq] at k3
      rw [k3.1, k3.2]
    | halt x w' => rw [hq] at k3; cases k3

theorem results_ok {S : List Slot} {a : Act} {w : World} (hc : CR N env H S a w) {fn : Func} {rs : List ResultVar} {vs : List AV} (hr : fn.results = rs.toArray) (h : ResVs P env H rs vs) : ∃ u, (results fn a.tmps).run P w = .ok u w ∧ VR (own S) w S (tupv vs) u := by
  have key : ∀ (f : ResultVar → Sem Value), (∀ r, f r = (match r with
    | .tmp t => pure (a.tmps.getD t undef)
    | .cell p t => do loadVar t (← asAddr (a.tmps.getD p undef)) : Sem Value)) → ∀ (rs : List ResultVar) (vs : List AV), ResVs P env H rs vs → ∃ us : List Value, (rs.mapM f).run P w = .ok us w ∧ us.length = vs.length ∧ ∀ (j : Nat) (v : AV) (u : Value), vs[j]? = some v → us[j]? = some u → VR (own S) w S v u := by
    intro f hf rs
    induction rs with
    | nil => intro vs h; cases h; exact ⟨[], by simp, rfl, fun _ _ _ h => by simp at h⟩
    | cons r rs ih =>
      intro vs h
      cases h with
      | cons h k =>
        obtain ⟨u, h1, h2⟩ := h.run hc
        obtain ⟨us, k1, k2, k3⟩ := ih _ k
        refine ⟨u :: us, ?_, by simp [k2], fun j v x hv hx => ?_⟩
        · rw [List.mapM_cons, hf]
          simp only [Sem.run_bind, h1, k1, Result.andThen_ok, Sem.run_pure]
        · cases j with
          | zero => simp at hv hx; subst hv; subst hx; exact h2
          | succ j => exact k3 j v x (by simpa using hv) (by simpa using hx)
  unfold results
  rw [hr]
  simp only [List.mapM_toArray, Sem.run_bind, Sem.run_map]
  obtain ⟨us, k1, k2, k3⟩ := key (fun r => match r with
    | .tmp t => pure (a.tmps.getD t undef)
    | .cell p t => do loadVar t (← asAddr (a.tmps.getD p undef))) (fun _ => rfl) rs vs h
  erw [k1]
  simp only [Result.andThen_ok, Sem.run_pure]
  match vs, us, k2, k3 with
  | [], [], _, _ => exact ⟨_, rfl, .tup rfl fun _ _ _ h => by simp at h⟩
  | [v], [u], _, k3 => exact ⟨_, rfl, k3 0 v u rfl rfl⟩
  | v :: v' :: vs, u :: u' :: us, k2, k3 =>
    refine ⟨.tuple (u :: u' :: us).toArray, by simp, .tup (by simp at k2; simp [k2]) fun j x y hx hy => k3 j x y hx (by simpa using hy)⟩

theorem FitV.ok {S : List Slot} {w : World} {v : AV} {u : Value} {M : Heap} (hh : HRel H S w) (hv : VR (own S) w S v u) (k : Ext B.S B.w S w) (hf : FitV B v H M) : ∃ S', HRel M S' w ∧ VR (own S') w S' v u ∧ Ext B.S B.w S' w := by
  rcases hf with rfl | ⟨G, rfl, hn, hb, hm⟩
  · exact ⟨S, hh, hv, k⟩
  · have ht : (M ++ G).take M.length = M := by simp
    have := hh.take (n := M.length) (by rw [ht]; exact hm)
    rw [ht] at this
    exact ⟨S.take M.length, this, hv.take (fun b h k => h (own_take k)) hb, k.take hn⟩

theorem AC.body {f : FuncId} {N : Nat} {fn : Func} {c : Code} {args : List AV} {R : AOut → Heap → Prop} (rs : List ResultVar) (hf : P.funcs[f]? = some fn) (hb : fn.body = some c) (hr : fn.results = rs.toArray)
    (hN : fn.ntmps = N) (hn : args.length ≤ N) (h : ∀ B, Begun B H args → AWp P N B c (Ends P B rs R) (params 0 args) (H ++ [])) : AC P f args H R := by
  subst hN
  simp only [List.append_nil] at h
  intro S w cargs hH hv
  refine calls_of_wp hf hb ?_
  have hc : CR fn.ntmps (params 0 args) H S { tmps := cargs ++ Array.replicate (fn.ntmps - cargs.size) undef, defers := [] } w := by
    refine ⟨hH, fun t => ?_, ?_, rfl⟩
    · rw [get_params, if_pos (Nat.zero_le _), Nat.sub_zero]
      by_cases ht : t < args.length
      · have h1 : args.getD t .junk = args[t] := by simp [List.getD, ht]
        have ht' : t < cargs.size := by rw [← hv.1]; exact ht
        have h2 : (cargs ++ Array.replicate (fn.ntmps - cargs.size) undef).getD t undef = cargs[t] := by
          simp [Array.getElem?_append_left ht', ht']
        rw [h1, h2]
        exact hv.2 t _ _ (List.getElem?_eq_getElem ht) (Array.getElem?_eq_getElem ht')
      · have h1 : args.getD t .junk = .junk := by simp [List.getD, List.getElem?_eq_none (Nat.le_of_not_lt ht)]
        rw [h1]; exact .junk
    · have := hv.1
      simp
      omega
  have hbg : Begun ⟨S, w⟩ H args := by
    refine ⟨hH.len.symm, hH.bel, ?_⟩
    rw [AV.bels_iff]
    intro v hv'
    obtain ⟨j, hj⟩ := List.mem_iff_getElem?.1 hv'
    rw [hH.len]
    exact (hv.2 j v _ hj (Array.getElem?_eq_getElem (by rw [← hv.1]; exact (List.getElem?_eq_some_iff.1 hj).1))).bel
  refine wp_mono (h ⟨S, w⟩ hbg S _ w hc (Ext.refl S w)) ?_
  intro e a' w' ⟨x, env', H', S', q, r, c, k⟩
  cases r with
  | nrm =>
    obtain ⟨vs, M, h1, h2, h3⟩ := q
    obtain ⟨u, k1, k2⟩ := results_ok c hr h1
    obtain ⟨S2, m1, m2, m3⟩ := h2.ok c.heap k2 k
    exact ⟨c.defers, u, k1, _, M, S2, h3, .ret m2, m1, m3⟩
  | ret =>
    obtain ⟨vs, M, h1, h2, h3⟩ := q
    obtain ⟨u, k1, k2⟩ := results_ok c hr h1
    obtain ⟨S2, m1, m2, m3⟩ := h2.ok c.heap k2 k
    exact ⟨c.defers, u, k1, _, M, S2, h3, .ret m2, m1, m3⟩
  | brk => exact q.elim
  | pan hv =>
    obtain ⟨M, h2, h3⟩ := q
    obtain ⟨S2, m1, m2, m3⟩ := h2.ok c.heap hv k
    exact ⟨c.defers, _, M, S2, h3, .pan m2, m1, m3⟩

/-- The usual contract: it returns this, and the memory is this. -/
def Ret (v : AV) (M : Heap) : AOut → Heap → Prop := fun o H' => o = .ret v ∧ H' = M

/-- The end, where what was made on the way is forgotten. -/
theorem Ends.done {rs : List ResultVar} {vs : List AV} {v : AV} {M G : Heap} (h : ResVs P env H rs vs) (hv : tupv vs = v) (hH : H = M ++ G) (hM : B.S.length ≤ M.length) (hb : v.bel M.length = true) (hm : HBel M.length M) : Ends P B rs (Ret v M) .ret env H :=
  ⟨vs, M, h, .inr ⟨G, hH, hM, hv ▸ hb, hm⟩, by rw [hv], rfl⟩
theorem Ends.of_nrm {rs : List ResultVar} {R : AOut → Heap → Prop} (h : Ends P B rs R .ret env H) : Ends P B rs R .nrm env H := h
end
end Go.Av

/-
  THE RULES AS A WALK USES THEM: the memory is 'H0 ++ L': what was there, and the call's own rows, written out.
-/
namespace Go.Av

/-- The k-th of the call's own rows. -/
def Lid (n k : Nat) : Nat := n + k
theorem lk {H0 L : Heap} {n k : Nat} {o : AObj} (hn : H0.length = n) (h : L[k]? = some o) : (H0 ++ L)[Lid n k]? = some o := by
  unfold Lid
  rw [List.getElem?_append_right (by omega), ← hn]
  simpa using h
theorem lkF {H0 L : Heap} {id : Nat} {o : AObj} (h : H0[id]? = some o) : (H0 ++ L)[id]? = some o := by
  rw [List.getElem?_append_left (List.getElem?_eq_some_iff.1 h).1]
  exact h
theorem st {H0 L : Heap} {n k : Nat} {o : AObj} (hn : H0.length = n) : (H0 ++ L).set (Lid n k) o = H0 ++ L.set k o := by
  unfold Lid
  rw [List.set_append_right _ _ (by omega), ← hn]
  simp
theorem stF {H0 L : Heap} {id : Nat} {o o' : AObj} (h : H0[id]? = some o) : (H0 ++ L).set id o' = H0.set id o' ++ L :=
  List.set_append_left _ _ (List.getElem?_eq_some_iff.1 h).1

section
variable {P : Program} {N : Nat} {B : Base} {Q R : Post} {K : Env → Heap → Prop} {env : Env} {H H0 L : Heap} {ty : TypeId} {ops : Array Oper} {rest : List Oper} {pos : String} {after : Array Edge}

/-! #### what stands behind a piece of code -/
theorem then_nrm (h : K env H) : AX.andThen K Q .nrm env H := h
theorem then_brk {i : Nat} (h : Q (.brk i) env H) : AX.andThen K Q (.brk i) env H := h
theorem then_ret (h : Q .ret env H) : AX.andThen K Q .ret env H := h
theorem then_pan {v : AV} (h : Q (.pan v) env H) : AX.andThen K Q (.pan v) env H := h
theorem blk_nrm {id : Nat} (h : Q .nrm env H) : AX.inBlock id Q .nrm env H := h
theorem blk_hit {id : Nat} (h : Q .nrm env H) : AX.inBlock id Q (.brk id) env H := by simpa [AX.inBlock] using h
theorem blk_miss {id i : Nat} (hne : (i == id) = false) (h : Q (.brk i) env H) : AX.inBlock id Q (.brk i) env H := by
  have : ¬ i = id := by simpa using hne
  simpa [AX.inBlock, this] using h
theorem blk_ret {id : Nat} (h : Q .ret env H) : AX.inBlock id Q .ret env H := h
theorem blk_pan {id : Nat} {v : AV} (h : Q (.pan v) env H) : AX.inBlock id Q (.pan v) env H := h

/-- A region whose outcome is told: this environment, this memory. -/
theorem aw_region_to {id : Nat} {l : List Oper} (E : Env) (M : Heap) (h : AOps P N B l.toArray l (fun x e H' => x = .nrm ∧ Sub E e ∧ Fit B E H' M) env H) (k : Q .nrm E M) : AWp P N B (.region id l.toArray false) Q env H := by
  refine aw_region (fun S a w hc hb => ?_)
  have key : ∀ (l' : List Oper) (a : Act) (w : World), wpList P l.toArray (Lift N (fun x e H' => x = .nrm ∧ Sub E e ∧ Fit B E H' M) B) l' a w → wpList P l.toArray (Lift N Q B) l' a w := by
    have base : ∀ e a' w', Lift N (fun x e H' => x = .nrm ∧ Sub E e ∧ Fit B E H' M) B e a' w' → Lift N Q B e a' w' := by
      rintro e a' w' ⟨x, env', H', S', ⟨rfl, hs, hf⟩, r, c, k'⟩
      cases r
      obtain ⟨S2, c2, k2⟩ := (c.sub hs).fit k' hf
      exact ⟨.nrm, E, M, S2, k, .nrm, c2, k2⟩
    intro l'
    induction l' with
    | nil => intro a w h; exact base _ _ _ h
    | cons o l' ih =>
      intro a w1 h
      unfold wpList at h ⊢
      split
      · rename_i hw
        rw [if_pos hw] at h
        rcases h with h | ⟨hasks, a0, w0, hq⟩
        · left
          unfold Oper.wp at h ⊢
          generalize (execOp a.eval o).run P w1 = r at *
          cases r with
          | ok n w' =>
            cases n <;> simp only [Oper.upon] at h ⊢ <;> first
              | exact ih _ _ h
              | exact h
              | exact Rows.mono h fun _ _ h => ih _ _ h
              | exact Calls.mono h fun e w'' he => by
                  cases e with
                  | returned v => exact ih _ _ he
                  | panicked ch => exact base _ _ _ he
                  | outgrown => obtain ⟨a0, w0, hq⟩ := he; exact ⟨a0, w0, base _ _ _ hq⟩
          | halt x w' => cases x <;> simp only [Oper.upon] at h ⊢ <;> first | exact base _ _ _ h | exact h
        · exact .inr ⟨hasks, a0, w0, base _ _ _ hq⟩
      · rename_i hw
        rw [if_neg hw] at h
        exact ih _ _ h
  exact key l a w (h S a w hc hb)

/-! #### operations with memory written out -/
theorem o_allocL {t : TypeId} {sz k : Nat} {zs : List AV} [hz : ZcI P t zs] (hn : zs.length = sz) (hp : 0 < sz) (hk : L.length = k) : V2 P N (.alloc t) ty env (H0 ++ L) (.pt (Lid H0.length k) 0 0 0) (H0 ++ (L ++ [⟨0, sz, [zs]⟩])) := by
  have := o_alloc (P := P) (N := N) (env := env) (H := H0 ++ L) (ty := ty) (t := t) (zs := zs) hn hp
  rwa [List.length_append, hk, List.append_assoc] at this
theorem o_boxL {t : TypeId} {x : Operand} {v : AV} {sz k : Nat} {cs : List AV} (hx : aev env x = v) (hv : v.cellish = true) (hcs : v.cells = cs) (hn : cs.length = sz) (hp : 0 < sz) (hk : L.length = k) : V2 P N (.box t x) ty env (H0 ++ L) (.pt (Lid H0.length k) 0 0 0) (H0 ++ (L ++ [⟨0, sz, [cs]⟩])) := by
  have := o_box (P := P) (N := N) (env := env) (H := H0 ++ L) (ty := ty) (t := t) hx hv hcs hn hp
  rwa [List.length_append, hk, List.append_assoc] at this
theorem o_storeL {t : TypeId} {x y : Operand} {n k i j sz : Nat} {agg : Bool} {o : AObj} {r : List AV} {v : AV} [TyI P t agg sz] (hx : aev env x = .pt (Lid n k) o.gen i j) (hn : H0.length = n) (hk : L[k]? = some o) (hr : o.rows[i]? = some r)
    (hy : aev env y = v) (hc : v.cellish = true) (hl : v.cells.length = sz) (hj : j + sz ≤ o.sz) :
    V2 P N (.store t x y) ty env (H0 ++ L) .junk (H0 ++ L.set k { o with rows := o.rows.set i (r.take j ++ v.cells ++ r.drop (j + sz)) }) := by
  have := o_store (P := P) (N := N) (env := env) (H := H0 ++ L) (ty := ty) (t := t) hx (lk hn hk) hr hy hc hl hj
  rwa [st hn] at this
theorem o_storeF {t : TypeId} {x y : Operand} {id i j sz : Nat} {agg : Bool} {o : AObj} {r : List AV} {v : AV} [TyI P t agg sz] (hx : aev env x = .pt id o.gen i j) (hid : H0[id]? = some o) (hr : o.rows[i]? = some r)
    (hy : aev env y = v) (hc : v.cellish = true) (hl : v.cells.length = sz) (hj : j + sz ≤ o.sz) :
    V2 P N (.store t x y) ty env (H0 ++ L) .junk (H0.set id { o with rows := o.rows.set i (r.take j ++ v.cells ++ r.drop (j + sz)) } ++ L) := by
  have := o_store (P := P) (N := N) (env := env) (H := H0 ++ L) (ty := ty) (t := t) hx (lkF hid) hr hy hc hl hj
  rwa [stF hid] at this
theorem o_buildSliceL {t e : TypeId} {n sz k : Nat} {parts : Array (Nat × Operand)} {agg : Bool} {zs cs : List AV} {rows : List (List AV)} [hu : SlI P t e] [TyI P e agg sz] [hz : ZcI P e zs] (hn : zs.length = sz) (hp : 0 < sz) (h0 : 0 < n) (hbig : n * sz ≤ 16777216)
    (hf : afill ((List.range n).map fun i => (i * sz, sz)) (List.replicate n zs).flatten (parts.toList.map fun (i, x) => (i, aev env x)) = some cs) (hrows : rows.flatten = cs) (hw : ∀ r ∈ rows, r.length = sz) (hk : L.length = k) :
    V2 P N (.buildSlice t n parts) ty env (H0 ++ L) (.sl (Lid H0.length k) 0 0 n n) (H0 ++ (L ++ [⟨0, sz, rows⟩])) := by
  have := o_buildSlice (P := P) (N := N) (env := env) (H := H0 ++ L) (ty := ty) (t := t) (e := e) (agg := agg) (zs := zs) hn hp h0 hbig hf hrows hw
  rwa [List.length_append, hk, List.append_assoc] at this
/-- The literal of one element. -/
theorem o_buildSlice1L {t e : TypeId} {sz k : Nat} {x : Operand} {v : AV} {agg : Bool} {zs cs : List AV} [hu : SlI P t e] [TyI P e agg sz] [hz : ZcI P e zs] (hn : zs.length = sz) (hp : 0 < sz) (hbig : sz ≤ 16777216) (hx : aev env x = v) (hv : v.cellish = true) (hcs : v.cells = cs) (hl : cs.length = sz) (hk : L.length = k) :
    V2 P N (.buildSlice t 1 #[(0, x)]) ty env (H0 ++ L) (.sl (Lid H0.length k) 0 0 1 1) (H0 ++ (L ++ [⟨0, sz, [cs]⟩])) := by
  subst hcs
  subst hx
  refine o_buildSliceL (cs := (aev env x).cells) (zs := zs) (agg := agg) (e := e) hn hp (by omega) (by omega) ?_ (by simp) (by simpa using hl) hk
  have h1 : (aev env x).cells.length = sz ∧ 0 + sz ≤ ((List.replicate 1 zs).flatten).length ∧ (aev env x).cellish = true := ⟨hl, by simp [hn], hv⟩
  simp only [afill, List.map_cons, List.map_nil, List.range_succ, List.range_zero, List.nil_append, List.getElem?_cons_zero, Nat.zero_mul]
  rw [if_pos h1]
  simp [hn]
theorem o_makeSliceL {t e : TypeId} {x y : Operand} {k k' : IntKind} {n c sz bytes m : Nat} {agg : Bool} {zs : List AV} [hu : SlI P t e] [TyI P e agg sz] [hz : ZcI P e zs] [hby : ByI P e bytes] (hn : zs.length = sz) (hp : 0 < sz)
    (hx : aev env x = .int k (n : Int)) (hy : aev env y = .int k' (c : Int)) (hnc : n ≤ c) (hb : bytes * c ≤ 281474976710656) (h63 : (c : Int) ≤ 9223372036854775807) (hm : L.length = m) :
    V2 P N (.makeSlice t x y) ty env (H0 ++ L) (.sl (Lid H0.length m) 0 0 n c) (H0 ++ (L ++ [⟨0, sz, List.replicate c zs⟩])) := by
  have := o_makeSlice (P := P) (N := N) (env := env) (H := H0 ++ L) (ty := ty) (t := t) (e := e) (agg := agg) (zs := zs) (bytes := bytes) hn hp hx hy hnc hb h63
  rwa [List.length_append, hm, List.append_assoc] at this
theorem o_append_nslL {t t' e : TypeId} {x y : Operand} {sz bytes k : Nat} {agg : Bool} {zs : List AV} {ys : List (List AV)} [hu : SlI P t e] [NiI P t'] [TyI P e agg sz] [hz : ZcI P e zs] [ByI P e bytes] (hn : zs.length = sz) (hp : 0 < sz)
    (hx : aev env x = .nsl) (hy : Src P N env (H0 ++ L) y sz ys) (hne : 0 < ys.length) (h63 : ys.length ≤ 9223372036854775807) (hb : ys.length * bytes ≤ 140737488355328) (hk : L.length = k) :
    V2 P N (.call { callee := .builtin .append, args := #[x, y], argTypes := #[t, t'] }) ty env (H0 ++ L) (.sl (Lid H0.length k) 0 0 ys.length ys.length) (H0 ++ (L ++ [⟨0, sz, ys⟩])) := by
  have := o_append_nsl (P := P) (N := N) (env := env) (H := H0 ++ L) (ty := ty) (t := t) (t' := t') (e := e) (agg := agg) (zs := zs) (bytes := bytes) hn hp hx hy hne h63 hb
  rwa [List.length_append, hk, List.append_assoc] at this
theorem o_appendL {t t' e : TypeId} {x y : Operand} {n k len cap sz bytes : Nat} {agg : Bool} {zs : List AV} {o : AObj} {ys : List (List AV)} [hu : SlI P t e] [NiI P t'] [TyI P e agg sz] [hz : ZcI P e zs] [ByI P e bytes] (hz' : zs.length = sz)
    (hx : aev env x = .sl (Lid n k) o.gen 0 len cap) (hn : H0.length = n) (hk : L[k]? = some o) (hsz : o.sz = sz) (hlen : len ≤ o.rows.length) (hy : Src P N env (H0 ++ L) y sz ys) (hne : 0 < ys.length) (h63 : len + ys.length ≤ 9223372036854775807) (hb : (len + ys.length) * bytes ≤ 140737488355328) :
    V2 P N (.call { callee := .builtin .append, args := #[x, y], argTypes := #[t, t'] }) ty env (H0 ++ L) (.sl (Lid n k) (o.gen + 1) 0 (len + ys.length) (len + ys.length)) (H0 ++ L.set k ⟨o.gen + 1, o.sz, o.rows.take len ++ ys⟩) := by
  have := o_append (P := P) (N := N) (env := env) (H := H0 ++ L) (ty := ty) (t := t) (t' := t') (e := e) (agg := agg) (zs := zs) (bytes := bytes) hz' hx (lk hn hk) hsz hlen hy hne h63 hb
  rwa [st hn] at this
theorem Src.slL {x : Operand} {n k off len cap sz : Nat} {o : AObj} {ys : List (List AV)} (hx : aev env x = .sl (Lid n k) o.gen off len cap) (hn : H0.length = n) (hk : L[k]? = some o) (hsz : o.sz = sz) (hys : (o.rows.drop off).take len = ys) (hlen : ys.length = len) : Src P N env (H0 ++ L) x sz ys := Src.sl hx (lk hn hk) hsz hys hlen

/-! #### calls of contracts that return one thing -/
theorem ao_ret {d f : Nat} {xs : Array Operand} {ts : Array TypeId} {v : AV} {vs : List AV} {M : Heap} [FnI P f] (hac : AC P f vs H (Ret v M)) (hvs : xs.toList.map (aev env) = vs) (hd : d < N)
    (h : AOps P N B ops rest Q ((d, v) :: env) M) : AOps P N B ops (⟨some d, .call { callee := .value (.func f), args := xs, argTypes := ts }, ty, pos, after, none⟩ :: rest) Q env H :=
  ao_call hvs hd hac (by rintro v' H' ⟨e, rfl⟩; injection e with e; subst e; exact h) (by rintro v' H' ⟨e, _⟩; cases e)
theorem ao_retv {d f : Nat} {x : Operand} {xs : Array Operand} {ts : Array TypeId} {v : AV} {ps qs vs : List AV} {M : Heap} [FnI P f] (hac : AC P f vs H (Ret v M)) (hx : aev env x = .fn (.func f) ps qs) (hvs : ps ++ xs.toList.map (aev env) ++ qs = vs) (hd : d < N)
    (h : AOps P N B ops rest Q ((d, v) :: env) M) : AOps P N B ops (⟨some d, .call { callee := .value x, args := xs, argTypes := ts }, ty, pos, after, none⟩ :: rest) Q env H :=
  ao_callv hx hvs hd hac (by rintro v' H' ⟨e, rfl⟩; injection e with e; subst e; exact h) (by rintro v' H' ⟨e, _⟩; cases e)
theorem V2.call {f : Nat} {xs : Array Operand} {ts : Array TypeId} {v : AV} {vs : List AV} {M : Heap} [FnI P f] (hac : AC P f vs H (Ret v M)) (hvs : xs.toList.map (aev env) = vs) :
    V2 P N (.call { callee := .value (.func f), args := xs, argTypes := ts }) ty env H v M := by
  subst hvs
  intro dst pos after guard S a w hc next Q hn hp
  refine AOp.call (P := P) (N := N) (o := ⟨dst, .call { callee := .value (.func f), args := xs, argTypes := ts }, ty, pos, after, guard⟩) (f := f) (fun S a w hc => ⟨xs.map a.eval, ?_, evs_ok hc xs⟩) hac S a w hc next Q ?_ ?_
  · simp [execOp, resolve, Act.eval, Deferred.ofValue, invoke, run_callFunc (P := P) (f := f)]
  · rintro v' u H' S' w' ⟨e, rfl⟩
    injection e with e
    subst e
    exact hn _ u _ S' w' ⟨rfl, rfl⟩
  · rintro v' u H' S' w' ⟨e, _⟩
    cases e

theorem wrap64_ok {n : Int} (h1 : -9223372036854775808 ≤ n) (h2 : n ≤ 9223372036854775807) : IntKind.i64.wrap n = n := by rw [IntKind.wrap_i64]; omega
end
end Go.Av

/-
  THE RULES ONCE MORE, in the order in which a walk comes to know their parts; case distinctions on a slot; regions whose outcome is one bool.
-/
namespace Go.Av

section
variable {P : Program} {N : Nat} {B : Base} {Q R : Post} {K : Env → Heap → Prop} {env : Env} {H H0 L : Heap} {ty : TypeId} {ops : Array Oper} {rest : List Oper} {op : Op} {pos : String} {after : Array Edge}

theorem w_nilCheck {x : Operand} {id g i j : Nat} {o : AObj} (hx : aev env x = .pt id g i j) (hid : H[id]? = some o) (hg : o.gen = g) : V1 P N (.nilCheck x) ty env H (.pt id g i j) := by subst hg; exact o_nilCheck hx hid
theorem w_load1 {t : TypeId} {x : Operand} {id g i j sz : Nat} {o : AObj} {r : List AV} {v : AV} [TyI P t false sz] (hx : aev env x = .pt id g i j) (hid : H[id]? = some o) (hg : o.gen = g) (hr : o.rows[i]? = some r) (hv : r[j]? = some v) : V1 P N (.load t x) ty env H v := by subst hg; exact o_load1 hx hid hr hv
theorem w_loadN {t : TypeId} {x : Operand} {id g i j sz : Nat} {o : AObj} {r cs : List AV} [TyI P t true sz] (hx : aev env x = .pt id g i j) (hid : H[id]? = some o) (hg : o.gen = g) (hr : o.rows[i]? = some r) (hv : (r.drop j).take sz = cs) (hn : cs.length = sz) : V1 P N (.load t x) ty env H (.agg cs) := by subst hg; exact o_loadN hx hid hr hv hn
/-- A whole row. -/
theorem w_loadR {t : TypeId} {x : Operand} {id g i sz : Nat} {o : AObj} {r : List AV} [TyI P t true sz] (hx : aev env x = .pt id g i 0) (hid : H[id]? = some o) (hg : o.gen = g) (hr : o.rows[i]? = some r) (hn : r.length = sz) : V1 P N (.load t x) ty env H (.agg r) := by
  subst hg; exact o_loadN hx hid hr (by rw [List.drop_zero, ← hn, List.take_length]) hn
theorem w_loadRp {t : TypeId} {x : Operand} {i sz : Nat} {xs : List (List AV)} {r : List AV} [TyI P t true sz] (hx : aev env x = .pp xs i 0) (hr : xs[i]? = some r) (hn : r.length = sz) : V1 P N (.load t x) ty env H (.agg r) :=
  o_loadNp hx hr (by rw [List.drop_zero, ← hn, List.take_length]) hn
theorem w_fieldAddr {s ft : TypeId} {x : Operand} {f off id g i j sz : Nat} {agg : Bool} {o : AObj} [FldI P s f off ft] [TyI P ft agg sz] (hx : aev env x = .pt id g i j) (hid : H[id]? = some o) (hg : o.gen = g) (h0 : sz ≠ 0) : V1 P N (.fieldAddr s x f) ty env H (.pt id g i (j + off)) := by subst hg; exact o_fieldAddr (agg := agg) (ft := ft) h0 hx hid
theorem w_fieldAddrp {s ft : TypeId} {x : Operand} {f off i j sz : Nat} {agg : Bool} {xs : List (List AV)} [FldI P s f off ft] [TyI P ft agg sz] (hx : aev env x = .pp xs i j) (h0 : sz ≠ 0) : V1 P N (.fieldAddr s x f) ty env H (.pp xs i (j + off)) := o_fieldAddrp (agg := agg) (ft := ft) h0 hx
theorem w_indexAddr {t e : TypeId} {x y : Operand} {id g off len cap : Nat} {k : IntKind} {n : Int} {sz : Nat} {agg : Bool} {o : AObj} [SlI P t e] [TyI P e agg sz] (hx : aev env x = .sl id g off len cap) (hid : H[id]? = some o) (hg : o.gen = g) (hsz : o.sz = sz)
    (hy : aev env y = .int k n) (h0 : 0 ≤ n) (h1 : n < len) : V1 P N (.indexAddr t x y) ty env H (.pt id g (off + n.toNat) 0) := by subst hg; exact o_indexAddr (agg := agg) (e := e) hx hid hsz hy h0 h1
/-- The index is a Nat. -/
theorem w_indexAddrN {t e : TypeId} {x y : Operand} {id g off len cap : Nat} {k : IntKind} {n : Nat} {sz : Nat} {agg : Bool} {o : AObj} [SlI P t e] [TyI P e agg sz] (hx : aev env x = .sl id g off len cap) (hid : H[id]? = some o) (hg : o.gen = g) (hsz : o.sz = sz)
    (hy : aev env y = .int k (n : Int)) (h1 : n < len) : V1 P N (.indexAddr t x y) ty env H (.pt id g (off + n) 0) := by subst hg; exact o_indexAddr (agg := agg) (e := e) hx hid hsz hy (by omega) (by omega)
theorem w_indexAddrp {t e : TypeId} {x y : Operand} {xs : List (List AV)} {k : IntKind} {n : Int} {sz : Nat} {agg : Bool} {r : List AV} [SlI P t e] [TyI P e agg sz] (hx : aev env x = .pl xs)
    (hy : aev env y = .int k n) (h0 : 0 ≤ n) (hr : xs[n.toNat]? = some r) (hsz : r.length = sz) : V1 P N (.indexAddr t x y) ty env H (.pp xs n.toNat 0) := o_indexAddrp (agg := agg) (e := e) hx hy h0 hr hsz
theorem w_indexAddrpN {t e : TypeId} {x y : Operand} {xs : List (List AV)} {k : IntKind} {n : Nat} {sz : Nat} {agg : Bool} {r : List AV} [SlI P t e] [TyI P e agg sz] (hx : aev env x = .pl xs)
    (hy : aev env y = .int k (n : Int)) (hr : xs[n]? = some r) (hsz : r.length = sz) : V1 P N (.indexAddr t x y) ty env H (.pp xs n 0) := o_indexAddrp (agg := agg) (e := e) hx hy (by omega) hr hsz
theorem w_indexArr {t e : TypeId} {x y : Operand} {id g i j m : Nat} {k : IntKind} {n : Int} {sz : Nat} {agg : Bool} {o : AObj} [ArI P t m e] [TyI P e agg sz] (hx : aev env x = .pt id g i j) (hid : H[id]? = some o) (hg : o.gen = g)
    (hy : aev env y = .int k n) (h0 : 0 ≤ n) (h1 : n < m) : V1 P N (.indexAddr t x y) ty env H (.pt id g i (j + n.toNat * sz)) := by subst hg; exact o_indexArr (agg := agg) (e := e) hx hid hy h0 h1
theorem w_lens {x : Operand} {t e : TypeId} {id g off len cap : Nat} {o : AObj} [hu : SlI P t e] (hx : aev env x = .sl id g off len cap) (hid : H[id]? = some o) (hg : o.gen = g) : V1 P N (.call { callee := .builtin .len, args := #[x], argTypes := #[t] }) ty env H (.int .i64 (len : Int)) := by subst hg; exact o_lens (e := e) hx hid
theorem w_slices {t e : TypeId} {x : Operand} {lo hi : Option Operand} {id g off len cap l h sz : Nat} {agg : Bool} {o : AObj} [hu : SlI P t e] [TyI P e agg sz] (hx : aev env x = .sl id g off len cap) (hid : H[id]? = some o) (hg : o.gen = g) (hsz : o.sz = sz) (hl : Bd env lo 0 l) (hh : Bd env hi len h) (h1 : l ≤ h) (h2 : h ≤ max len cap) :
    V1 P N (.slice t x lo hi Option.none) ty env H (.sl id g (off + l) (h - l) (cap - l)) := by subst hg; exact o_slices (agg := agg) (e := e) hx hid hsz hl hh h1 h2
theorem w_slice00s {t e : TypeId} {x hi mx : Operand} {lo : Option Operand} {k k' : IntKind} {id g off len cap sz : Nat} {agg : Bool} {o : AObj} [hu : SlI P t e] [TyI P e agg sz] (hx : aev env x = .sl id g off len cap) (hid : H[id]? = some o) (hg : o.gen = g) (hl : Bd env lo 0 0) (hh : aev env hi = .int k 0) (hm : aev env mx = .int k' 0) :
    V1 P N (.slice t x lo (Option.some hi) (Option.some mx)) ty env H .nsl := by subst hg; exact o_slice00s (agg := agg) (e := e) hx hid hl hh hm
theorem w_store {t : TypeId} {x y : Operand} {n k g i j sz : Nat} {agg : Bool} {o : AObj} {r : List AV} {v : AV} [TyI P t agg sz] (hx : aev env x = .pt (Lid n k) g i j) (hn : H0.length = n) (hk : L[k]? = some o) (hg : o.gen = g) (hr : o.rows[i]? = some r)
    (hy : aev env y = v) (hc : v.cellish = true) (hl : v.cells.length = sz) (hj : j + sz ≤ o.sz) :
    V2 P N (.store t x y) ty env (H0 ++ L) .junk (H0 ++ L.set k { o with rows := o.rows.set i (r.take j ++ v.cells ++ r.drop (j + sz)) }) := by subst hg; exact o_storeL (agg := agg) hx hn hk hr hy hc hl hj
/-- The row as1 it stands behind. -/
theorem w_storeP {t : TypeId} {x y : Operand} {n k g i j sz : Nat} {agg : Bool} {o : AObj} {r r' : List AV} {v : AV} [TyI P t agg sz] (hx : aev env x = .pt (Lid n k) g i j) (hn : H0.length = n) (hk : L[k]? = some o) (hg : o.gen = g) (hr : o.rows[i]? = some r)
    (hy : aev env y = v) (hc : v.cellish = true) (hl : v.cells.length = sz) (hj : j + sz ≤ o.sz) (hr' : r.take j ++ v.cells ++ r.drop (j + sz) = r') :
    V2 P N (.store t x y) ty env (H0 ++ L) .junk (H0 ++ L.set k { o with rows := o.rows.set i r' }) := by subst hr'; exact w_store (agg := agg) hx hn hk hg hr hy hc hl hj
theorem w_storeFP {t : TypeId} {x y : Operand} {id g i j sz : Nat} {agg : Bool} {o : AObj} {r r' : List AV} {v : AV} [TyI P t agg sz] (hx : aev env x = .pt id g i j) (hid : H0[id]? = some o) (hg : o.gen = g) (hr : o.rows[i]? = some r)
    (hy : aev env y = v) (hc : v.cellish = true) (hl : v.cells.length = sz) (hj : j + sz ≤ o.sz) (hr' : r.take j ++ v.cells ++ r.drop (j + sz) = r') :
    V2 P N (.store t x y) ty env (H0 ++ L) .junk (H0.set id { o with rows := o.rows.set i r' } ++ L) := by
  subst hr'; subst hg; exact o_storeF (agg := agg) hx hid hr hy hc hl hj
theorem w_storeF {t : TypeId} {x y : Operand} {id g i j sz : Nat} {agg : Bool} {o : AObj} {r : List AV} {v : AV} [TyI P t agg sz] (hx : aev env x = .pt id g i j) (hid : H0[id]? = some o) (hg : o.gen = g) (hr : o.rows[i]? = some r)
    (hy : aev env y = v) (hc : v.cellish = true) (hl : v.cells.length = sz) (hj : j + sz ≤ o.sz) :
    V2 P N (.store t x y) ty env (H0 ++ L) .junk (H0.set id { o with rows := o.rows.set i (r.take j ++ v.cells ++ r.drop (j + sz)) } ++ L) := by subst hg; exact o_storeF (agg := agg) hx hid hr hy hc hl hj
theorem w_append {t t' e : TypeId} {x y : Operand} {n k g len cap sz bytes : Nat} {agg : Bool} {zs : List AV} {o : AObj} {ys : List (List AV)} [hu : SlI P t e] [NiI P t'] [TyI P e agg sz] [hz : ZcI P e zs] [ByI P e bytes]
    (hx : aev env x = .sl (Lid n k) g 0 len cap) (hn : H0.length = n) (hk : L[k]? = some o) (hg : o.gen = g) (hsz : o.sz = sz) (hy : Src P N env (H0 ++ L) y sz ys) (hz' : zs.length = sz) (hlen : len ≤ o.rows.length) (hne : 0 < ys.length) (h63 : len + ys.length ≤ 9223372036854775807) (hb : (len + ys.length) * bytes ≤ 140737488355328) :
    V2 P N (.call { callee := .builtin .append, args := #[x, y], argTypes := #[t, t'] }) ty env (H0 ++ L) (.sl (Lid n k) (g + 1) 0 (len + ys.length) (len + ys.length)) (H0 ++ L.set k ⟨g + 1, o.sz, o.rows.take len ++ ys⟩) := by subst hg; exact o_appendL (agg := agg) (e := e) hz' hx hn hk hsz hlen hy hne h63 hb
theorem w_srcs {x : Operand} {n k g off len cap sz : Nat} {o : AObj} {ys : List (List AV)} (hx : aev env x = .sl (Lid n k) g off len cap) (hn : H0.length = n) (hk : L[k]? = some o) (hg : o.gen = g) (hsz : o.sz = sz) (hys : (o.rows.drop off).take len = ys) (hlen : ys.length = len) : Src P N env (H0 ++ L) x sz ys := by subst hg; exact Src.slL hx hn hk hsz hys hlen
/-- A row of the call's own, whole. -/
theorem w_src1 {x : Operand} {n k g len cap sz : Nat} {o : AObj} (hx : aev env x = .sl (Lid n k) g 0 len cap) (hn : H0.length = n) (hk : L[k]? = some o) (hg : o.gen = g) (hsz : o.sz = sz) (hlen : o.rows.length = len) : Src P N env (H0 ++ L) x sz o.rows := by subst hg; exact Src.slL hx hn hk hsz (by rw [List.drop_zero, ← hlen, List.take_length]) hlen

/-- A slot's bool: both ways. -/
theorem CR.know {S : List Slot} {a : Act} {w : World} {g : Nat} {v : AV} (h : CR N env H S a w) (hv : get env g = v) : CR N ((g, v) :: env) H S a w :=
  ⟨h.heap, fun t => by
    by_cases e : g = t
    · subst e; rw [get_put_same, ← hv]; exact h.env g
    · rw [get_put_other _ _ e]; exact h.env t, h.size, h.defers⟩
theorem ao_know {l : List Oper} {g : Nat} {v : AV} (hv : get env g = v) (h : AOps P N B ops l Q ((g, v) :: env) H) : AOps P N B ops l Q env H := fun S a w hc hb => h S a w (hc.know hv) hb
theorem aw_know {c : Code} {g : Nat} {v : AV} (hv : get env g = v) (h : AWp P N B c Q ((g, v) :: env) H) : AWp P N B c Q env H := fun S a w hc hb => h S a w (hc.know hv) hb
theorem ao_split {d : Option Nat} {g j : Nat} {want b : Bool} (hj : (ops[j]?).bind (·.dst) = some g) (hb : get env g = .bool b)
    (h1 : b = true → AOps P N B ops (⟨d, op, ty, pos, after, some (j, want)⟩ :: rest) Q ((g, .bool true) :: env) H)
    (h2 : b = false → AOps P N B ops (⟨d, op, ty, pos, after, some (j, want)⟩ :: rest) Q ((g, .bool false) :: env) H) : AOps P N B ops (⟨d, op, ty, pos, after, some (j, want)⟩ :: rest) Q env H := by
  have _ := hj
  cases b
  · exact ao_know hb (h2 rfl)
  · exact ao_know hb (h1 rfl)
theorem ao_y {d g j : Nat} {want : Bool} {v : AV} {H' : Heap} (hj : (ops[j]?).bind (·.dst) = some g) (hb : get env g = .bool want) (hd : d < N) (h1 : V2 P N op ty env H v H') (h : AOps P N B ops rest Q ((d, v) :: env) H') : AOps P N B ops (⟨some d, op, ty, pos, after, some (j, want)⟩ :: rest) Q env H := ao_gy hj hb hd h1 h
theorem ao_y1 {d g j : Nat} {want : Bool} {v : AV} (hj : (ops[j]?).bind (·.dst) = some g) (hb : get env g = .bool want) (hd : d < N) (h1 : V1 P N op ty env H v) (h : AOps P N B ops rest Q ((d, v) :: env) H) : AOps P N B ops (⟨some d, op, ty, pos, after, some (j, want)⟩ :: rest) Q env H := ao_gy hj hb hd h1.toV2 h
theorem ao_nT {d g j : Nat} (hj : (ops[j]?).bind (·.dst) = some g) (hb : get env g = .bool false) (hd : d < N) (h : AOps P N B ops rest Q ((d, .tup []) :: env) H) : AOps P N B ops (⟨some d, op, ty, pos, after, some (j, true)⟩ :: rest) Q env H := ao_gn hj hb (by decide) hd h
theorem ao_nF {d g j : Nat} (hj : (ops[j]?).bind (·.dst) = some g) (hb : get env g = .bool true) (hd : d < N) (h : AOps P N B ops rest Q ((d, .tup []) :: env) H) : AOps P N B ops (⟨some d, op, ty, pos, after, some (j, false)⟩ :: rest) Q env H := ao_gn hj hb (by decide) hd h

theorem ao_nU {d g j : Nat} {want : Bool} (hj : (ops[j]?).bind (·.dst) = some g) (hb : get env g = .tup []) (hd : d < N) (h : AOps P N B ops rest Q ((d, .tup []) :: env) H) : AOps P N B ops (⟨some d, op, ty, pos, after, some (j, want)⟩ :: rest) Q env H := ao_unasked rfl hj hb (by rintro _ ⟨⟩; exact hd) h

theorem Sub.put {E : Env} {d : Nat} {v : AV} (h : get E d = .junk) (k : Sub E env) : Sub E ((d, v) :: env) := fun t => by
  by_cases e : d = t
  · subst e; exact .inl h
  · rw [get_put_other _ _ e]; exact k t
/-- A slot that keeps its value. -/
theorem Sub.put_same {E : Env} {d : Nat} {v : AV} (h : get E d = v) (k : Sub E env) : Sub E ((d, v) :: env) := fun t => by
  by_cases e : d = t
  · subst e; rw [get_put_same]; exact .inr h.symm
  · rw [get_put_other _ _ e]; exact k t
/-- All that was known stays, but for slot t. -/
def SubX (t : Nat) (E env : Env) : Prop := ∀ s, s ≠ t → get E s = .junk ∨ get env s = get E s
theorem SubX.refl (t : Nat) (env : Env) : SubX t env env := fun _ _ => .inr rfl
theorem SubX.at {t : Nat} {E : Env} {v : AV} (k : SubX t E env) : SubX t E ((t, v) :: env) := fun s hs => by
  rw [get_put_other _ _ (Ne.symm hs)]; exact k s hs
theorem SubX.put {t d : Nat} {E : Env} {v : AV} (h : get E d = .junk) (k : SubX t E env) : SubX t E ((d, v) :: env) := fun s hs => by
  by_cases e : d = s
  · subst e; exact .inl h
  · rw [get_put_other _ _ e]; exact k s hs
theorem SubX.put_same {t d : Nat} {E : Env} {v : AV} (h : get E d = v) (k : SubX t E env) : SubX t E ((d, v) :: env) := fun s hs => by
  by_cases e : d = s
  · subst e; rw [get_put_same]; exact .inr h.symm
  · rw [get_put_other _ _ e]; exact k s hs
theorem SubX.sub {t : Nat} {E : Env} {v : AV} (h : get env t = v) (k : SubX t E env) : Sub ((t, v) :: E) env := fun s => by
  by_cases e : t = s
  · subst e; rw [get_put_same]; exact .inr h
  · rw [get_put_other _ _ e]; exact k s (Ne.symm e)
/-- The outcome of a region: slot t holds v; all that was known stays. -/
def Out (_ : Base) (env : Env) (t : Nat) (v : AV) (H : Heap) : Post := fun x e H' => x = .nrm ∧ get e t = v ∧ SubX t env e ∧ H' = H
theorem Out.mk {t : Nat} {v : AV} {e : Env} (h : get e t = v) (k : SubX t env e) : Out B env t v H .nrm e H := ⟨rfl, h, k, rfl⟩
theorem aw_out {id : Nat} {l : List Oper} (t : Nat) (v : AV) (h : AOps P N B l.toArray l (Out B env t v H) env H) (k : Q .nrm ((t, v) :: env) H) : AWp P N B (.region id l.toArray false) Q env H := by
  refine aw_region_to ((t, v) :: env) H (fun S a w hc hb => ?_) k
  have base : ∀ e a' w', Lift N (Out B env t v H) B e a' w' → Lift N (fun x e H' => x = .nrm ∧ Sub ((t, v) :: env) e ∧ Fit B ((t, v) :: env) H' H) B e a' w' := by
    rintro e a' w' ⟨x, env', H', S', ⟨rfl, h1, h2, rfl⟩, r, c, k'⟩
    exact ⟨.nrm, env', H', S', ⟨rfl, h2.sub h1, .inl rfl⟩, r, c, k'⟩
  have key : ∀ (l' : List Oper) (a : Act) (w : World), wpList P l.toArray (Lift N (Out B env t v H) B) l' a w → wpList P l.toArray (Lift N (fun x e H' => x = .nrm ∧ Sub ((t, v) :: env) e ∧ Fit B ((t, v) :: env) H' H) B) l' a w := by
    intro l'
    induction l' with
    | nil => intro a w h; exact base _ _ _ h
    | cons o l' ih =>
      intro a w1 h
      unfold wpList at h ⊢
      split
      · rename_i hw
        rw [if_pos hw] at h
        rcases h with h | ⟨hasks, a0, w0, hq⟩
        · left
          unfold Oper.wp at h ⊢
          generalize (execOp a.eval o).run P w1 = r at *
          cases r with
          | ok n w' =>
            cases n <;> simp only [Oper.upon] at h ⊢ <;> first
              | exact ih _ _ h
              | exact h
              | exact Rows.mono h fun _ _ h => ih _ _ h
              | exact Calls.mono h fun e w'' he => by
                  cases e with
                  | returned v => exact ih _ _ he
                  | panicked ch => exact base _ _ _ he
                  | outgrown => obtain ⟨a0, w0, hq⟩ := he; exact ⟨a0, w0, base _ _ _ hq⟩
          | halt x w' => cases x <;> simp only [Oper.upon] at h ⊢ <;> first | exact base _ _ _ h | exact h
        · exact .inr ⟨hasks, a0, w0, base _ _ _ hq⟩
      · rename_i hw
        rw [if_neg hw] at h
        exact ih _ _ h
  exact key l a w (h S a w hc hb)

theorem aw_freezeL {c : Code} {n k g off len cap : Nat} {o : AObj} {ys : List (List AV)} (t : Nat) (ht : get env t = .sl (Lid n k) g off len cap) (hn : H0.length = n) (hk : L[k]? = some o) (hg : o.gen = g) (hys : (o.rows.drop off).take len = ys) (hlen : ys.length = len) (hp : ∀ r ∈ ys, AV.bels 0 r = true)
    (h : AWp P N B c Q ((t, .pl ys) :: env) (H0 ++ L.set k ⟨g + 1, o.sz, []⟩)) : AWp P N B c Q env (H0 ++ L) := by
  subst hg
  refine aw_freeze t ht (lk hn hk) hys hlen hp ?_
  rw [st hn]
  exact h
/-- A whole row. -/
theorem aw_freeze1 {c : Code} {n k g len cap : Nat} {o : AObj} (t : Nat) (ht : get env t = .sl (Lid n k) g 0 len cap) (hn : H0.length = n) (hk : L[k]? = some o) (hg : o.gen = g) (hlen : o.rows.length = len) (hp : ∀ r ∈ o.rows, AV.bels 0 r = true)
    (h : AWp P N B c Q ((t, .pl o.rows) :: env) (H0 ++ L.set k ⟨g + 1, o.sz, []⟩)) : AWp P N B c Q env (H0 ++ L) :=
  aw_freezeL t ht hn hk hg (by rw [List.drop_zero, ← hlen, List.take_length]) hlen hp h
theorem aw_ghostL {c : Code} {k : Nat} (t sz : Nat) (ht : get env t = .nsl) (hp : 0 < sz) (hk : L.length = k) (h : AWp P N B c Q ((t, .sl (Lid H0.length k) 0 0 0 0) :: env) (H0 ++ (L ++ [⟨0, sz, []⟩]))) : AWp P N B c Q env (H0 ++ L) := by
  refine aw_ghost t sz ht hp ?_
  rw [List.length_append, hk, List.append_assoc]
  exact h

theorem r_tmp {t : Nat} {rs : List ResultVar} {v : AV} {vs : List AV} (h : get env t = v) (k : ResVs P env H rs vs) : ResVs P env H (.tmp t :: rs) (v :: vs) := .cons (.tmp h) k
theorem r_cell1 {p t id g i j sz : Nat} {o : AObj} {r : List AV} {v : AV} {rs : List ResultVar} {vs : List AV} [ty : TyI P t false sz] (h : get env p = .pt id g i j) (hid : H[id]? = some o) (hg : o.gen = g) (hr : o.rows[i]? = some r) (hv : r[j]? = some v) (k : ResVs P env H rs vs) : ResVs P env H (.cell p t :: rs) (v :: vs) := by subst hg; exact .cons (.cell1 ty h hid hr hv) k
theorem r_cellR {p t id g i sz : Nat} {o : AObj} {r : List AV} {rs : List ResultVar} {vs : List AV} [ty : TyI P t true sz] (h : get env p = .pt id g i 0) (hid : H[id]? = some o) (hg : o.gen = g) (hr : o.rows[i]? = some r) (hn : r.length = sz) (k : ResVs P env H rs vs) : ResVs P env H (.cell p t :: rs) (.agg r :: vs) := by subst hg; exact .cons (.cellN ty h hid hr (by rw [List.drop_zero, ← hn, List.take_length]) hn) k
/-- The end of a call whose result names no row of its own. -/
theorem e_done {rs : List ResultVar} {vs : List AV} {v : AV} {args : List AV} (hB : Begun B H args) (h : ResVs P env (H ++ L) rs vs) (hv : tupv vs = v) (hb : v.bel H.length = true) : Ends P B rs (Ret v H) .ret env (H ++ L) :=
  Ends.done h hv rfl (by rw [hB.len]; exact Nat.le_refl _) hb hB.heap
end
end Go.Av

/-
  LOOPS THAT GATHER: what is forgotten at a round's end, rows that grow by one.
-/
namespace Go.Av

mutual
theorem AV.bel_mono {n m : Nat} (h : n ≤ m) : ∀ v : AV, AV.bel n v = true → AV.bel m v = true
  | .sl _ _ _ _ _, hv => by simp [AV.bel] at hv ⊢; omega
  | .pt _ _ _ _, hv => by simp [AV.bel] at hv ⊢; omega
  | .agg cs, hv => AV.bels_mono h cs hv
  | .tup cs, hv => AV.bels_mono h cs hv
  | .fn _ p q, hv => by
    simp only [AV.bel, Bool.and_eq_true] at hv ⊢
    exact ⟨AV.bels_mono h p hv.1, AV.bels_mono h q hv.2⟩
  | .ifc _ v, hv => AV.bel_mono h v hv
  | .junk, _ | .int _ _, _ | .bool _, _ | .str _, _ | .flt _ _, _ | .nsl, _ | .pl _, _ | .pp _ _ _, _ | .nptr, _ | .nfn, _ | .nifc, _ | .raw _, _ | .know _ _, _ => rfl
theorem AV.bels_mono {n m : Nat} (h : n ≤ m) : ∀ vs : List AV, AV.bels n vs = true → AV.bels m vs = true
  | [], _ => rfl
  | v :: vs, hv => by
    simp only [AV.bels, Bool.and_eq_true] at hv ⊢
    exact ⟨AV.bel_mono h v hv.1, AV.bels_mono h vs hv.2⟩
end
theorem HBel.mono {n m : Nat} (h : n ≤ m) {M : Heap} (k : HBel n M) : HBel m M := fun o ho r hr => AV.bels_mono h r (k o ho r hr)

section
variable {B : Base} {H L G : Heap} {E : Env} {args : List AV}
/-- At a round's end, or anywhere: rows made behind L are forgotten. -/
theorem Fit.loc {L' : Heap} (hB : Begun B H args) (hL : L' = L ++ G) (hE : EBel (H.length + L.length) E) (hr : ∀ o ∈ L, ∀ r ∈ o.rows, AV.bels (H.length + L.length) r = true) : Fit B E (H ++ L') (H ++ L) := by
  subst hL
  refine .inr ⟨G, by simp, by rw [hB.len]; simp, by simpa using hE, ?_⟩
  intro o ho r hr'
  rw [List.length_append]
  rcases List.mem_append.1 ho with h | h
  · exact AV.bels_mono (by omega) r (hB.heap o h r hr')
  · exact hr o h r hr'
theorem Fit.same {M M' : Heap} (h : M = M') : Fit B E M M' := .inl h
end

section
variable {P : Program} {N : Nat} {B : Base} {Q : Post} {env : Env} {H H0 L : Heap} {ty : TypeId} {ops : Array Oper} {rest : List Oper} {pos : String} {after : Array Edge}
theorem Lid_app {k : Nat} (hk : L.length = k) : Lid (H0 ++ L).length 0 = Lid H0.length k := by simp [Lid, hk]
/-- The end of a call that hands back rows of its own. -/
theorem e_keep {rs : List ResultVar} {vs : List AV} {v : AV} {args : List AV} {K G : Heap} (hB : Begun B H args) (h : ResVs P env (H ++ L) rs vs) (hv : tupv vs = v) (hL : L = K ++ G) (hb : v.bel (H.length + K.length) = true) (hr : ∀ o ∈ K, ∀ r ∈ o.rows, AV.bels (H.length + K.length) r = true) : Ends P B rs (Ret v (H ++ K)) .ret env (H ++ L) := by
  subst hL
  refine ⟨vs, H ++ K, h, .inr ⟨G, by simp, by rw [hB.len]; simp, by rw [hv]; simpa using hb, ?_⟩, by rw [hv], rfl⟩
  intro o ho r hr'
  rw [List.length_append]
  rcases List.mem_append.1 ho with h | h
  · exact AV.bels_mono (by omega) r (hB.heap o h r hr')
  · exact hr o h r hr'
/-- A call that hands back a row of its own. -/
theorem V2.callo {f g n c : Nat} {xs : Array Operand} {ts : Array TypeId} {vs : List AV} {o : AObj} {k : Nat} [FnI P f] (hac : AC P f vs (H0 ++ L) (Ret (.sl (Lid (H0 ++ L).length 0) g 0 n c) ((H0 ++ L) ++ [o]))) (hvs : xs.toList.map (aev env) = vs) (hk : L.length = k) :
    V2 P N (.call { callee := .value (.func f), args := xs, argTypes := ts }) ty env (H0 ++ L) (.sl (Lid H0.length k) g 0 n c) (H0 ++ (L ++ [o])) := by
  have := V2.call (N := N) (ty := ty) (ts := ts) hac hvs
  rwa [Lid_app hk, List.append_assoc] at this
theorem V2.callo2 {f g n c : Nat} {xs : Array Operand} {ts : Array TypeId} {vs : List AV} {o : AObj} {k : Nat} {v : AV} [FnI P f] (hac : AC P f vs (H0 ++ L) (Ret (.tup [.sl (Lid (H0 ++ L).length 0) g 0 n c, v]) ((H0 ++ L) ++ [o]))) (hvs : xs.toList.map (aev env) = vs) (hk : L.length = k) :
    V2 P N (.call { callee := .value (.func f), args := xs, argTypes := ts }) ty env (H0 ++ L) (.tup [.sl (Lid H0.length k) g 0 n c, v]) (H0 ++ (L ++ [o])) := by
  have := V2.call (N := N) (ty := ty) (ts := ts) hac hvs
  rwa [Lid_app hk, List.append_assoc] at this
end

theorem take_snoc_map {α : Type} (e : α → List AV) {l : List α} {k : Nat} {x : α} (hx : l[k]? = some x) : ((l.take k).map e).take k ++ [e x] = (l.take (k + 1)).map e := by
  have hlt := (List.getElem?_eq_some_iff.1 hx).1
  have h1 : ((l.take k).map e).length = k := by simp; omega
  rw [List.take_of_length_le (by omega), List.take_add_one, hx]
  simp
theorem map_get {α : Type} (e : α → List AV) {l : List α} {k : Nat} {x : α} (hx : l[k]? = some x) : (l.map e)[k]? = some (e x) := by simp [hx]
theorem get_of_lt {α : Type} {l : List α} {k : Nat} (h : k < l.length) : ∃ x, l[k]? = some x := ⟨l[k], List.getElem?_eq_getElem h⟩
theorem get_in {α : Type} {l : List α} {k : Nat} (h : k < l.length) : ∃ x, l[k]? = some x ∧ x ∈ l := ⟨l[k], List.getElem?_eq_getElem h, List.getElem_mem h⟩
/-- Encoded rows name no row. -/
theorem rows_bel {α : Type} {e : α → List AV} {n : Nat} (he : ∀ x, AV.bels n (e x) = true) (l : List α) : ∀ r ∈ l.map e, AV.bels n r = true := by
  intro r hr
  obtain ⟨x, _, rfl⟩ := List.mem_map.1 hr
  exact he x
theorem rows_len {α : Type} {e : α → List AV} {n : Nat} (he : ∀ x, (e x).length = n) (l : List α) : ∀ r ∈ l.map e, r.length = n := by
  intro r hr
  obtain ⟨x, _, rfl⟩ := List.mem_map.1 hr
  exact he x
end Go.Av

/-
  PLAIN FACTS ABOUT LISTS (of no program).
-/
namespace Go.Av
/-- What IndexFunc finds. -/
def ixf {α : Type} (p : α → Bool) (l : List α) : Int := match l.findIdx? p with
  | some n => n
  | none => -1
theorem ixf_some {α : Type} {p : α → Bool} {l : List α} {k : Nat} {x : α} (hx : l[k]? = some x) (hp : p x = true) (hno : ∀ y ∈ l.take k, p y = false) : ixf p l = k := by
  have : l.findIdx? p = some k := by
    rw [List.findIdx?_eq_some_iff_getElem]
    obtain ⟨h1, h2⟩ := List.getElem?_eq_some_iff.1 hx
    refine ⟨h1, by rw [h2]; exact hp, fun j hj => ?_⟩
    have hj' : j < l.length := Nat.lt_trans hj h1
    have := hno l[j] (List.mem_iff_getElem?.2 ⟨j, by rw [List.getElem?_take, if_pos hj]; exact List.getElem?_eq_getElem hj'⟩)
    simp [this]
  simp [ixf, this]
theorem ixf_none {α : Type} {p : α → Bool} {l : List α} (hno : ∀ y ∈ l, p y = false) : ixf p l = -1 := by
  have : l.findIdx? p = none := by rw [List.findIdx?_eq_none_iff]; simpa using hno
  simp [ixf, this]
theorem ixf_nonneg {α : Type} (p : α → Bool) (l : List α) : decide (0 ≤ ixf p l) = l.any p := by
  rw [Bool.eq_iff_iff]
  unfold ixf
  cases h : l.findIdx? p with
  | none =>
    rw [List.findIdx?_eq_none_iff] at h
    simp
    simpa using h
  | some n =>
    rw [List.findIdx?_eq_some_iff_getElem] at h
    obtain ⟨h1, h2, _⟩ := h
    simp
    exact ⟨_, List.getElem_mem h1, h2⟩
theorem take_snoc_get {α : Type} {l : List α} {k : Nat} {x : α} (hx : l[k]? = some x) : l.take (k + 1) = l.take k ++ [x] := by
  obtain ⟨h1, h2⟩ := List.getElem?_eq_some_iff.1 hx
  rw [List.take_add_one, hx]; rfl
theorem all_step {α : Type} {l : List α} {k : Nat} {x : α} {p : α → Bool} (hx : l[k]? = some x) (h : (l.take k).all p = true) (hp : p x = true) : (l.take (k + 1)).all p = true := by
  rw [take_snoc_get hx, List.all_append, h]; simp [hp]
theorem all_fail {α : Type} {l : List α} {x : α} {p : α → Bool} (hx : x ∈ l) (h : p x = false) : l.all p = false := by
  rw [List.all_eq_false]; exact ⟨x, hx, by simp [h]⟩
end Go.Av

/-
  SETS AS WORDS OF BITS (of no program).
-/
namespace Go.Av
def wdn (f : Nat → Bool) (b : Nat) : Nat → Nat
  | 0 => 0
  | n + 1 => wdn f b n + (if f (b + n) then 2 ^ n else 0)
theorem wdn_lt (f : Nat → Bool) (b : Nat) : ∀ n, wdn f b n < 2 ^ n
  | 0 => by simp [wdn]
  | n + 1 => by
    have := wdn_lt f b n
    unfold wdn
    rw [Nat.pow_succ]
    split <;> omega
theorem wdn_bit (f : Nat → Bool) (b : Nat) : ∀ n j, (wdn f b n).testBit j = (decide (j < n) && f (b + j))
  | 0, j => by simp [wdn]
  | n + 1, j => by
    have hlt := wdn_lt f b n
    have ih := wdn_bit f b n j
    have hl2 := wdn_lt f b (n + 1)
    by_cases h : n + 1 ≤ j
    · rw [Nat.testBit_lt_two_pow (Nat.lt_of_lt_of_le hl2 (Nat.pow_le_pow_right (by decide) h))]
      simp
      omega
    · unfold wdn
      by_cases e : j = n
      · subst e
        cases hf : f (b + j)
        · simp [ih]
        · simp only [if_true]
          rw [Nat.add_comm, Nat.testBit_two_pow_add_eq, ih]
          simp
      · cases hf : f (b + n)
        · simp only [Bool.false_eq_true, if_false, Nat.add_zero]
          rw [ih, show decide (j < n) = decide (j < n + 1) by simp; omega]
        · simp only [if_true]
          rw [Nat.add_comm, Nat.testBit_two_pow_add_gt (by omega), ih, show decide (j < n) = decide (j < n + 1) by simp; omega]
def wd (f : Nat → Bool) (i : Nat) : Nat := wdn f (64 * i) 64
theorem wd_lt (f : Nat → Bool) (i : Nat) : wd f i < 18446744073709551616 := wdn_lt f _ 64
theorem wd_bit (f : Nat → Bool) (i j : Nat) : (wd f i).testBit j = (decide (j < 64) && f (64 * i + j)) := wdn_bit f _ 64 j
theorem wd_or (f g : Nat → Bool) (i : Nat) : wd f i ||| wd g i = wd (fun n => f n || g n) i := by
  apply Nat.eq_of_testBit_eq; intro j
  rw [Nat.testBit_or, wd_bit, wd_bit, wd_bit]
  cases decide (j < 64) <;> simp
theorem wd_and (f g : Nat → Bool) (i : Nat) : wd f i &&& wd g i = wd (fun n => f n && g n) i := by
  apply Nat.eq_of_testBit_eq; intro j
  rw [Nat.testBit_and, wd_bit, wd_bit, wd_bit]
  cases decide (j < 64) <;> simp
theorem wd_put (f : Nat → Bool) (n i : Nat) : wd (fun m => f m || m == n) i = if i = n / 64 then wd f i ||| 2 ^ (n % 64) else wd f i := by
  apply Nat.eq_of_testBit_eq; intro j
  split
  · rename_i h
    rw [Nat.testBit_or, wd_bit, wd_bit, Nat.testBit_two_pow]
    by_cases hj : j < 64
    · rw [show (64 * i + j == n) = decide (n % 64 = j) by rw [Bool.eq_iff_iff]; simp; omega]
      simp [hj]
    · have : ¬ n % 64 = j := by omega
      simp [hj, this]
  · rename_i h
    rw [wd_bit, wd_bit]
    by_cases hj : j < 64
    · rw [show (64 * i + j == n) = false by simp; omega]
      simp
    · simp [hj]
theorem wd_zero (i : Nat) : wd (fun _ => false) i = 0 := by
  apply Nat.eq_of_testBit_eq; intro j
  rw [wd_bit]; simp
theorem wd_eq_zero (f : Nat → Bool) (i : Nat) : wd f i = 0 ↔ ∀ j, j < 64 → f (64 * i + j) = false := by
  constructor
  · intro h j hj
    have := wd_bit f i j
    rw [h] at this
    simpa [hj] using this.symm
  · intro h
    apply Nat.eq_of_testBit_eq; intro j
    rw [wd_bit]
    by_cases hj : j < 64
    · simp [h j hj]
    · simp [hj]

/-! The numbers of a word's bits, in order. -/
def bl (x : Nat) : List Nat := (List.range 64).filter x.testBit
theorem bl_zero : bl 0 = [] := by decide
theorem low_bit {x : Nat} (h0 : x ≠ 0) (h : x < 18446744073709551616) : Lib.ctz 64 x < 64 ∧ x.testBit (Lib.ctz 64 x) = true ∧ (∀ j, j < Lib.ctz 64 x → x.testBit j = false) ∧ ∀ j, (x &&& (x - 1)).testBit j = (decide (Lib.ctz 64 x < j) && x.testBit j) := by
  obtain ⟨m, hm, hk⟩ := Lib.ctzFrom_spec 64 x (by omega) h
  have e : Lib.ctz 64 x = Lib.ctzFrom 64 x := by simp [Lib.ctz, h0]
  rw [e]
  generalize Lib.ctzFrom 64 x = k at hm hk
  have hp : 0 < 2 ^ k := Nat.pow_pos (by decide)
  have hx : ∀ j, x.testBit j = (decide (k ≤ j) && (2 * m + 1).testBit (j - k)) := by
    intro j
    rw [hm, Nat.mul_comm, Nat.testBit_mul_two_pow]
  have hx1 : x - 1 = 2 ^ k * (2 * m) + (2 ^ k - 1) := by
    rw [hm, Nat.mul_add, Nat.mul_one]; omega
  have hx1' : ∀ j, (x - 1).testBit j = if j < k then (2 ^ k - 1).testBit j else (2 * m).testBit (j - k) := by
    intro j
    rw [hx1]
    exact Nat.testBit_two_pow_mul_add _ (by omega) _
  refine ⟨hk, ?_, fun j hj => ?_, fun j => ?_⟩
  · rw [hx]; simp
  · rw [hx]; simp; omega
  · rw [Nat.testBit_and, hx, hx1']
    by_cases h1 : j < k
    · have : ¬ k ≤ j := by omega
      simp [this]
    · rw [if_neg h1]
      by_cases h2 : j = k
      · subst h2; simp
      · obtain ⟨d, rfl⟩ : ∃ d, j = k + (d + 1) := ⟨j - k - 1, by omega⟩
        rw [show k + (d + 1) - k = d + 1 by omega, Nat.testBit_succ, Nat.testBit_succ, show (2 * m + 1) / 2 = m by omega, show 2 * m / 2 = m by omega]
        have : k ≤ k + (d + 1) := by omega
        have h3 : k < k + (d + 1) := by omega
        simp [this, h3]
theorem bl_step {x : Nat} (h0 : x ≠ 0) (h : x < 18446744073709551616) : bl x = Lib.ctz 64 x :: bl (x &&& (x - 1)) := by
  obtain ⟨hk, h1, h2, h3⟩ := low_bit h0 h
  generalize Lib.ctz 64 x = k at hk h1 h2 h3
  have hr : List.range 64 = List.range k ++ k :: (List.range (63 - k)).map (fun j => k + 1 + j) := by
    have e1 : (64 : Nat) = k + (1 + (63 - k)) := by omega
    conv => lhs; rw [e1, List.range_add, List.range_add]
    simp [Function.comp_def, Nat.add_assoc]
  unfold bl
  rw [hr, List.filter_append, List.filter_append, List.filter_cons_of_pos h1, List.filter_cons_of_neg (by rw [h3]; simp)]
  have e1 : (List.range k).filter x.testBit = [] := List.filter_eq_nil_iff.2 (by intro j hj; rw [h2 j (by simpa using hj)]; simp)
  have e2 : (List.range k).filter (x &&& (x - 1)).testBit = [] := List.filter_eq_nil_iff.2 (by
    intro j hj
    have : j < k := by simpa using hj
    rw [h3]
    simp
    omega)
  rw [e1, e2]
  simp only [List.nil_append, List.cons.injEq, true_and]
  refine List.filter_congr fun j hj => ?_
  simp only [List.mem_map, List.mem_range] at hj
  obtain ⟨d, _, rfl⟩ := hj
  rw [h3]
  have : k < k + 1 + d := by omega
  simp [this]
theorem and_pred_lt {x : Nat} (h0 : x ≠ 0) : x &&& (x - 1) < x := Nat.lt_of_le_of_lt Nat.and_le_right (by omega)

/-- A set's numbers, in order, up to 64 n. -/
def setN (f : Nat → Bool) (n : Nat) : List Int := ((List.range (64 * n)).filter f).map fun j : Nat => (j : Int)
def setl (f : Nat → Bool) : List Int := ((List.range 256).filter f).map fun j : Nat => (j : Int)
theorem setN_step (f : Nat → Bool) (n : Nat) : setN f (n + 1) = setN f n ++ (bl (wd f n)).map fun j : Nat => ((64 * n + j : Nat) : Int) := by
  unfold setN
  rw [Nat.mul_add, Nat.mul_one, List.range_add, List.filter_append, List.map_append]
  congr 1
  rw [List.filter_map, List.map_map]
  have : bl (wd f n) = (List.range 64).filter (f ∘ fun x => 64 * n + x) := by
    refine List.filter_congr fun j hj => ?_
    rw [wd_bit]
    simp [List.mem_range.1 hj]
  rw [this]
  rfl
theorem setN_four (f : Nat → Bool) : setN f 4 = setl f := rfl
theorem setN_zero (f : Nat → Bool) : setN f 0 = [] := rfl
end Go.Av

