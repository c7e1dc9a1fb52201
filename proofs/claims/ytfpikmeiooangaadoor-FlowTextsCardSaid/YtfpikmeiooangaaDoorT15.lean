/- A part of a proof: Shelf, GNum, GParI. -/
import Derived.Shelf.Strings.Builder1
import Derived.Shelf.Small.Wraps
import Derived.Shelf.Strings.BuilderF
import Derived.Shelf.Strconv.Atoi
import Derived.Shelf.Strconv.Itoa0
import Derived.Shelf.Strconv.Itoa1
import Derived.Shelf.LaysM
import Derived.Shelf.Strconv.Itoa2
import Derived.Shelf.Strconv.Itoa3
import Derived.Shelf.Strconv.AtoiErrFast
import Derived.Shelf.Strconv.ParseIntEmpty
import Derived.Shelf.Strconv.AtoiFail
import Derived.Shelf.Strconv.Clone
import Derived.Shelf.Strconv.SyntaxError
import Derived.Shelf.LaysC
import Derived.Shelf.Strconv.ToError
import Derived.Shelf.Strconv.Lower
import Derived.Shelf.Strconv.ParseUint10
import Derived.Shelf.Strconv.ParseUint10Empty
import Derived.Shelf.Strconv.ParseUint10Any
import Derived.Shelf.Strconv.ParseInt10
import Derived.Shelf.Strconv.AtoiLong
import Derived.Shelf.Strconv.AtoiInnerAll
import Derived.Shelf.Strconv.RangeError
import Derived.Shelf.Strconv.ToErrorRange
import Derived.Shelf.Strconv.AtoiAll
import Derived.Shelf.Strconv.ErrVarAll
import Derived.Shelf.Strings.Search1
import Derived.Shelf.Strings.Search2
import Derived.Shelf.Strings.Search3
import Derived.Shelf.Strings.Count
import Derived.Shelf.Strings.Shaped
import Derived.Shelf.Strings.Split
import Derived.Shelf.Strings.SplitShaped
import Derived.Shelf.Unicode.Decode
import Derived.Shelf.Strings.RuneCount
import Derived.Shelf.Strings.Explode
import Derived.Shelf.Unicode.DecodeSlow
import Derived.Shelf.Unicode.DecodeAny
import Derived.WalkSpells
import Derived.WalkLawsBesides
import Derived.WideLaws
import Derived.LaidEql
import Derived.Lib.Hide
import Derived.OneCell
import Derived.Lib.SplitLaws
import Derived.Test.YtfpikmeiooangaaDoorProg
import Derived.Test.YtfpikmeiooangaaDoorT04
set_option linter.unusedVariables false
set_option linter.unusedSimpArgs false
section
namespace Go.Proofs
open Go.Shelf
def Tryd.lays169_ren : Go.Shelf.Ren := ⟨fun | 169 => 17 | n => n, fun | 70 => 39 | 9 => 9 | 0 => 0 | 72 => 42 | 37 => 40 | 127 => 63 | 3 => 3 | 5 => 5 | n => n, fun | n => n⟩
theorem Tryd.lays169 : Go.Proofs.Lays.n169 Tryd.prog Tryd.lays169_ren := {
  mixed := by kernel_rfl
  f169 := Tryd.func17.trans (congrArg some (by kernel_rfl))
  t0 := Tryd.underlying0
  a0 := Tryd.isAgg0
  z0 := Tryd.sizeOf0
  v0 := Tryd.zeroValue0
  t3 := Tryd.underlying3
  a3 := Tryd.isAgg3
  z3 := Tryd.sizeOf3
  v3 := Tryd.zeroValue3
  t9 := Tryd.underlying9
  a9 := Tryd.isAgg9
  z9 := Tryd.sizeOf9
  v9 := Tryd.zeroValue9
  t37 := Tryd.underlying40
  a37 := Tryd.isAgg40
  z37 := Tryd.sizeOf40
  v37 := Tryd.zeroValue40
  t70 := Tryd.underlying39
  a70 := Tryd.isAgg39
  z70 := Tryd.sizeOf39
  v70 := Tryd.zeroValue39
  t72 := Tryd.underlying42
  a72 := Tryd.isAgg42
  z72 := Tryd.sizeOf42
  v72 := Tryd.zeroValue42
  t127 := Tryd.underlying63
  a127 := Tryd.isAgg63
  z127 := Tryd.sizeOf63
  v127 := Tryd.zeroValue63 }
theorem Tryd.Builder_Extra_169 : Builder.Extra Tryd.prog Tryd.lays169_ren := {
  sizeBuilder := by kernel_rfl
  liesBuilder := by kernel_rfl
  t5 := Tryd.underlying5
  a5 := Tryd.isAgg5
  z5 := Tryd.sizeOf5
  v5 := Tryd.zeroValue5
  infoByte := by kernel_rfl
  cellsByte := by kernel_rfl
  sizeByte := by kernel_rfl
  neB5 := by decide }
open Go.RowKit in
/-- (*strings.Builder).String: "String returns the accumulated string.": WHATEVER THE BUILDER HOLDS. (LAID: no walk: one application.) -/
theorem Tryd.Builder_String_any (B b : Nat) (l : List UInt8) (w : World) (h : Lib.IsBuilder 42 5 B b (Lib.byteCells l) w) (hBw : B ≤ w.heap.size) :
    Calls Tryd.prog 17 #[.pointer (some ⟨b, 0, none⟩)] w fun e w' => e = .returned (.string ⟨l.toArray⟩) ∧ Below B w w' := Any.Builder_String_any Tryd.lays169 Tryd.Builder_Extra_169 B b l w h hBw
def Tryd.lays172_ren : Go.Shelf.Ren := ⟨fun | 172 => 22 | 244 => 40 | 245 => 41 | 247 => 55 | 279 => 56 | 280 => 57 | 281 => 58 | 282 => 59 | 287 => 69 | 316 => 70 | 171 => 15 | 205 => 71 | 321 => 82 | 322 => 83 | 243 => 33 | 246 => 49 | 283 => 61 | 284 => 62 | 285 => 63 | 286 => 64 | 129 => 73 | 317 => 72 | 318 => 74 | 319 => 75 | 320 => 76 | 337 => 84 | 338 => 85 | n => n, fun | 9 => 9 | 3 => 3 | 75 => 44 | 76 => 45 | 4 => 4 | 5 => 5 | 167 => 81 | 37 => 40 | 0 => 0 | 85 => 82 | 2 => 2 | 168 => 84 | 53 => 90 | 175 => 98 | 46 => 88 | 210 => 102 | 127 => 63 | 145 => 113 | 143 => 111 | 21 => 21 | 171 => 89 | 173 => 93 | 212 => 105 | 51 => 106 | 20 => 20 | 213 => 107 | 232 => 121 | 233 => 122 | 80 => 51 | n => n, fun | 15 => 0 | 16 => 1 | 17 => 2 | 18 => 6 | 19 => 7 | n => n⟩
def Tryd.laysM246_ren : Go.Shelf.Ren := ⟨fun | 246 => 49 | 283 => 61 | 284 => 62 | 285 => 63 | 286 => 64 | 129 => 73 | 317 => 72 | 318 => 74 | 319 => 75 | 320 => 76 | 337 => 84 | 338 => 85 | n => n, fun | 2 => 2 | 3 => 3 | 9 => 9 | 4 => 4 | 171 => 89 | 0 => 0 | 53 => 90 | 37 => 40 | 5 => 5 | 173 => 93 | 212 => 105 | 51 => 106 | 20 => 20 | 213 => 107 | 46 => 88 | 232 => 121 | 233 => 122 | n => n, fun | 17 => 2 | 18 => 6 | 19 => 7 | n => n⟩
def Tryd.laysM243_ren : Go.Shelf.Ren := ⟨fun | 243 => 33 | 246 => 49 | 283 => 61 | 284 => 62 | 285 => 63 | 286 => 64 | 129 => 73 | 317 => 72 | 318 => 74 | 319 => 75 | 320 => 76 | 337 => 84 | 338 => 85 | n => n, fun | 3 => 3 | 9 => 9 | 2 => 2 | 4 => 4 | 171 => 89 | 0 => 0 | 53 => 90 | 37 => 40 | 5 => 5 | 173 => 93 | 212 => 105 | 51 => 106 | 20 => 20 | 213 => 107 | 46 => 88 | 232 => 121 | 233 => 122 | n => n, fun | 17 => 2 | 18 => 6 | 19 => 7 | n => n⟩
def Tryd.laysM171_ren : Go.Shelf.Ren := ⟨fun | 171 => 15 | 243 => 33 | 246 => 49 | 283 => 61 | 284 => 62 | 285 => 63 | 286 => 64 | 129 => 73 | 317 => 72 | 318 => 74 | 319 => 75 | 320 => 76 | 337 => 84 | 338 => 85 | n => n, fun | 3 => 3 | 9 => 9 | 2 => 2 | 4 => 4 | 171 => 89 | 0 => 0 | 53 => 90 | 37 => 40 | 5 => 5 | 173 => 93 | 212 => 105 | 51 => 106 | 20 => 20 | 213 => 107 | 46 => 88 | 232 => 121 | 233 => 122 | n => n, fun | 17 => 2 | 18 => 6 | 19 => 7 | n => n⟩
def Tryd.lays171_ren : Go.Shelf.Ren := ⟨fun | 171 => 15 | 243 => 33 | 246 => 49 | 283 => 61 | 284 => 62 | 285 => 63 | 286 => 64 | 129 => 73 | 317 => 72 | 318 => 74 | 319 => 75 | 320 => 76 | 337 => 84 | 338 => 85 | n => n, fun | 3 => 3 | 9 => 9 | 2 => 2 | 4 => 4 | 171 => 89 | 0 => 0 | 53 => 90 | 37 => 40 | 5 => 5 | 173 => 93 | 212 => 105 | 51 => 106 | 20 => 20 | 213 => 107 | 46 => 88 | 232 => 121 | 233 => 122 | n => n, fun | 17 => 2 | 18 => 6 | 19 => 7 | n => n⟩
theorem Tryd.lays171 : Go.Proofs.Lays.n171 Tryd.prog Tryd.lays171_ren := {
  mixed := by kernel_rfl
  f129 := Tryd.func73.trans (congrArg some (by kernel_rfl))
  f171 := Tryd.func15.trans (congrArg some (by kernel_rfl))
  f243 := Tryd.func33.trans (congrArg some (by kernel_rfl))
  f246 := Tryd.func49.trans (congrArg some (by kernel_rfl))
  f283 := Tryd.func61.trans (congrArg some (by kernel_rfl))
  f284 := Tryd.func62.trans (congrArg some (by kernel_rfl))
  f285 := Tryd.func63.trans (congrArg some (by kernel_rfl))
  f286 := Tryd.func64.trans (congrArg some (by kernel_rfl))
  f317 := Tryd.func72.trans (congrArg some (by kernel_rfl))
  f318 := Tryd.func74.trans (congrArg some (by kernel_rfl))
  f319 := Tryd.func75.trans (congrArg some (by kernel_rfl))
  f320 := Tryd.func76.trans (congrArg some (by kernel_rfl))
  f337 := Tryd.func84.trans (congrArg some (by kernel_rfl))
  f338 := Tryd.func85.trans (congrArg some (by kernel_rfl))
  t0 := Tryd.underlying0
  a0 := Tryd.isAgg0
  z0 := Tryd.sizeOf0
  v0 := Tryd.zeroValue0
  t2 := Tryd.underlying2
  a2 := Tryd.isAgg2
  z2 := Tryd.sizeOf2
  v2 := Tryd.zeroValue2
  t3 := Tryd.underlying3
  a3 := Tryd.isAgg3
  z3 := Tryd.sizeOf3
  v3 := Tryd.zeroValue3
  t4 := Tryd.underlying4
  a4 := Tryd.isAgg4
  z4 := Tryd.sizeOf4
  v4 := Tryd.zeroValue4
  t5 := Tryd.underlying5
  a5 := Tryd.isAgg5
  z5 := Tryd.sizeOf5
  v5 := Tryd.zeroValue5
  t9 := Tryd.underlying9
  a9 := Tryd.isAgg9
  z9 := Tryd.sizeOf9
  v9 := Tryd.zeroValue9
  t20 := Tryd.underlying20
  a20 := Tryd.isAgg20
  z20 := Tryd.sizeOf20
  v20 := Tryd.zeroValue20
  t37 := Tryd.underlying40
  a37 := Tryd.isAgg40
  z37 := Tryd.sizeOf40
  v37 := Tryd.zeroValue40
  t46 := Tryd.underlying88
  a46 := Tryd.isAgg88
  z46 := Tryd.sizeOf88
  v46 := Tryd.zeroValue88
  t51 := Tryd.underlying106
  a51 := Tryd.isAgg106
  z51 := Tryd.sizeOf106
  v51 := Tryd.zeroValue106
  t53 := Tryd.underlying90
  a53 := Tryd.isAgg90
  z53 := Tryd.sizeOf90
  v53 := Tryd.zeroValue90
  t171 := Tryd.underlying89
  a171 := Tryd.isAgg89
  z171 := Tryd.sizeOf89
  v171 := Tryd.zeroValue89
  t173 := Tryd.underlying93
  a173 := Tryd.isAgg93
  z173 := Tryd.sizeOf93
  v173 := Tryd.zeroValue93
  t212 := Tryd.underlying105
  a212 := Tryd.isAgg105
  z212 := Tryd.sizeOf105
  v212 := Tryd.zeroValue105
  t213 := Tryd.underlying107
  a213 := Tryd.isAgg107
  z213 := Tryd.sizeOf107
  t232 := Tryd.underlying121
  a232 := Tryd.isAgg121
  z232 := Tryd.sizeOf121
  v232 := Tryd.zeroValue121
  t233 := Tryd.underlying122
  a233 := Tryd.isAgg122
  z233 := Tryd.sizeOf122
  v233 := Tryd.zeroValue122
  g17 := by kernel_rfl
  g18 := by kernel_rfl
  g19 := by kernel_rfl }
open Go.RowKit Go.Sort Go.Lib in
/-- THE ROAD WITHOUT THE TABLE: 0 <= i < 100: NO PREMISE ON THE WORLD, AND THE WORLD IS AS IT WAS: a row that keeps its argument in that range need list no table ('laid = []'). (LAID: no walk: one application.) -/
theorem Tryd.strconv_Itoa_small (i : Nat) (hi : i < 100) (w : World) :
    Calls Tryd.prog 15 #[.int .i64 i] w fun e w' => e = .returned (.string ⟨(Lib.decDigits i).toArray⟩) ∧ w' = w := Any.strconv_Itoa_small Tryd.lays171 i hi w
def Tryd.laysC172_ren : Go.Shelf.Ren := ⟨fun | 172 => 22 | 244 => 40 | 245 => 41 | 247 => 55 | 279 => 56 | 280 => 57 | 281 => 58 | 282 => 59 | 287 => 69 | 316 => 70 | 171 => 15 | 205 => 71 | 321 => 82 | 322 => 83 | 243 => 33 | 246 => 49 | 283 => 61 | 284 => 62 | 285 => 63 | 286 => 64 | 129 => 73 | 317 => 72 | 318 => 74 | 319 => 75 | 320 => 76 | 337 => 84 | 338 => 85 | n => n, fun | 9 => 9 | 3 => 3 | 75 => 44 | 76 => 45 | 4 => 4 | 5 => 5 | 167 => 81 | 37 => 40 | 0 => 0 | 85 => 82 | 2 => 2 | 168 => 84 | 53 => 90 | 175 => 98 | 46 => 88 | 210 => 102 | 127 => 63 | 145 => 113 | 143 => 111 | 21 => 21 | 171 => 89 | 173 => 93 | 212 => 105 | 51 => 106 | 20 => 20 | 213 => 107 | 232 => 121 | 233 => 122 | 80 => 51 | n => n, fun | 15 => 0 | 16 => 1 | 17 => 2 | 18 => 6 | 19 => 7 | n => n⟩
theorem Tryd.laysC172 : Go.Proofs.LaysC.n172 Tryd.prog Tryd.laysC172_ren := {
  mixed := by kernel_rfl
  f129 := Tryd.func73.trans (congrArg some (by kernel_rfl))
  f171 := Tryd.func15.trans (congrArg some (by kernel_rfl))
  f172 := Tryd.func22.trans (congrArg some (by kernel_rfl))
  f205 := Tryd.func71.trans (congrArg some (by kernel_rfl))
  f243 := Tryd.func33.trans (congrArg some (by kernel_rfl))
  f244 := Tryd.func40.trans (congrArg some (by kernel_rfl))
  f245 := Tryd.func41.trans (congrArg some (by kernel_rfl))
  f246 := Tryd.func49.trans (congrArg some (by kernel_rfl))
  f247 := Tryd.func55.trans (congrArg some (by kernel_rfl))
  f279 := Tryd.func56.trans (congrArg some (by kernel_rfl))
  f280 := Tryd.func57.trans (congrArg some (by kernel_rfl))
  f281 := Tryd.func58.trans (congrArg some (by kernel_rfl))
  f282 := Tryd.func59.trans (congrArg some (by kernel_rfl))
  f283 := Tryd.func61.trans (congrArg some (by kernel_rfl))
  f284 := Tryd.func62.trans (congrArg some (by kernel_rfl))
  f285 := Tryd.func63.trans (congrArg some (by kernel_rfl))
  f286 := Tryd.func64.trans (congrArg some (by kernel_rfl))
  f287 := Tryd.func69.trans (congrArg some (by kernel_rfl))
  f316 := Tryd.func70.trans (congrArg some (by kernel_rfl))
  f317 := Tryd.func72.trans (congrArg some (by kernel_rfl))
  f318 := Tryd.func74.trans (congrArg some (by kernel_rfl))
  f319 := Tryd.func75.trans (congrArg some (by kernel_rfl))
  f320 := Tryd.func76.trans (congrArg some (by kernel_rfl))
  f321 := Tryd.func82.trans (congrArg some (by kernel_rfl))
  f322 := Tryd.func83.trans (congrArg some (by kernel_rfl))
  f337 := Tryd.func84.trans (congrArg some (by kernel_rfl))
  f338 := Tryd.func85.trans (congrArg some (by kernel_rfl))
  t0 := Tryd.underlying0
  a0 := Tryd.isAgg0
  z0 := Tryd.sizeOf0
  v0 := Tryd.zeroValue0
  t2 := Tryd.underlying2
  a2 := Tryd.isAgg2
  z2 := Tryd.sizeOf2
  v2 := Tryd.zeroValue2
  t3 := Tryd.underlying3
  a3 := Tryd.isAgg3
  z3 := Tryd.sizeOf3
  v3 := Tryd.zeroValue3
  t4 := Tryd.underlying4
  a4 := Tryd.isAgg4
  z4 := Tryd.sizeOf4
  v4 := Tryd.zeroValue4
  t5 := Tryd.underlying5
  a5 := Tryd.isAgg5
  z5 := Tryd.sizeOf5
  v5 := Tryd.zeroValue5
  t9 := Tryd.underlying9
  a9 := Tryd.isAgg9
  z9 := Tryd.sizeOf9
  v9 := Tryd.zeroValue9
  t20 := Tryd.underlying20
  a20 := Tryd.isAgg20
  z20 := Tryd.sizeOf20
  v20 := Tryd.zeroValue20
  t21 := Tryd.underlying21
  a21 := Tryd.isAgg21
  z21 := Tryd.sizeOf21
  v21 := Tryd.zeroValue21
  t37 := Tryd.underlying40
  a37 := Tryd.isAgg40
  z37 := Tryd.sizeOf40
  v37 := Tryd.zeroValue40
  t46 := Tryd.underlying88
  a46 := Tryd.isAgg88
  z46 := Tryd.sizeOf88
  v46 := Tryd.zeroValue88
  t51 := Tryd.underlying106
  a51 := Tryd.isAgg106
  z51 := Tryd.sizeOf106
  v51 := Tryd.zeroValue106
  t53 := Tryd.underlying90
  a53 := Tryd.isAgg90
  z53 := Tryd.sizeOf90
  v53 := Tryd.zeroValue90
  t75 := Tryd.underlying44
  a75 := Tryd.isAgg44
  z75 := Tryd.sizeOf44
  v75 := Tryd.zeroValue44
  t76 := Tryd.underlying45
  a76 := Tryd.isAgg45
  z76 := Tryd.sizeOf45
  v76 := Tryd.zeroValue45
  t85 := Tryd.underlying82
  a85 := Tryd.isAgg82
  z85 := Tryd.sizeOf82
  v85 := Tryd.zeroValue82
  t127 := Tryd.underlying63
  a127 := Tryd.isAgg63
  z127 := Tryd.sizeOf63
  v127 := Tryd.zeroValue63
  t143 := Tryd.underlying111
  a143 := Tryd.isAgg111
  z143 := Tryd.sizeOf111
  v143 := Tryd.zeroValue111
  t145 := Tryd.underlying113
  a145 := Tryd.isAgg113
  z145 := Tryd.sizeOf113
  v145 := Tryd.zeroValue113
  t167 := Tryd.underlying81
  a167 := Tryd.isAgg81
  z167 := Tryd.sizeOf81
  v167 := Tryd.zeroValue81
  t168 := Tryd.underlying84
  a168 := Tryd.isAgg84
  z168 := Tryd.sizeOf84
  v168 := Tryd.zeroValue84
  t171 := Tryd.underlying89
  a171 := Tryd.isAgg89
  z171 := Tryd.sizeOf89
  v171 := Tryd.zeroValue89
  t173 := Tryd.underlying93
  a173 := Tryd.isAgg93
  z173 := Tryd.sizeOf93
  v173 := Tryd.zeroValue93
  t175 := Tryd.underlying98
  a175 := Tryd.isAgg98
  z175 := Tryd.sizeOf98
  v175 := Tryd.zeroValue98
  t210 := Tryd.underlying102
  a210 := Tryd.isAgg102
  z210 := Tryd.sizeOf102
  v210 := Tryd.zeroValue102
  t212 := Tryd.underlying105
  a212 := Tryd.isAgg105
  z212 := Tryd.sizeOf105
  v212 := Tryd.zeroValue105
  t213 := Tryd.underlying107
  a213 := Tryd.isAgg107
  z213 := Tryd.sizeOf107
  t232 := Tryd.underlying121
  a232 := Tryd.isAgg121
  z232 := Tryd.sizeOf121
  v232 := Tryd.zeroValue121
  t233 := Tryd.underlying122
  a233 := Tryd.isAgg122
  z233 := Tryd.sizeOf122
  v233 := Tryd.zeroValue122
  g15 := by kernel_rfl
  g16 := by kernel_rfl
  g17 := by kernel_rfl
  g18 := by kernel_rfl
  g19 := by kernel_rfl
  t80 := Tryd.underlying51
  a80 := Tryd.isAgg51
  z80 := Tryd.sizeOf51
  v80 := Tryd.zeroValue51
  i0 := by kernel_rfl
  i2 := by kernel_rfl
  i3 := by kernel_rfl
  i4 := by kernel_rfl
  i5 := by kernel_rfl
  i9 := by kernel_rfl
  i20 := by kernel_rfl
  i21 := by kernel_rfl
  i37 := by kernel_rfl
  i46 := by kernel_rfl
  i51 := by kernel_rfl
  i53 := by kernel_rfl
  i75 := by kernel_rfl
  i76 := by kernel_rfl
  i80 := by kernel_rfl
  i85 := by kernel_rfl
  i127 := by kernel_rfl
  i143 := by kernel_rfl
  i145 := by kernel_rfl
  i167 := by kernel_rfl
  i168 := by kernel_rfl
  i171 := by kernel_rfl
  i173 := by kernel_rfl
  i175 := by kernel_rfl
  i210 := by kernel_rfl
  i212 := by kernel_rfl
  i232 := by kernel_rfl
  i233 := by kernel_rfl
  m15 := by kernel_rfl
  m16 := by kernel_rfl
  m17 := by kernel_rfl
  m18 := by kernel_rfl
  m19 := by kernel_rfl
  c0 := by kernel_rfl
  c2 := by kernel_rfl
  c3 := by kernel_rfl
  c4 := by kernel_rfl
  c5 := by kernel_rfl
  c9 := by kernel_rfl
  c20 := by kernel_rfl
  c21 := by kernel_rfl
  c37 := by kernel_rfl
  c46 := by kernel_rfl
  c51 := by kernel_rfl
  c53 := by kernel_rfl
  c75 := by kernel_rfl
  c76 := by kernel_rfl
  c80 := by kernel_rfl
  c85 := by kernel_rfl
  c127 := by kernel_rfl
  c143 := by kernel_rfl
  c145 := by kernel_rfl
  c167 := by kernel_rfl
  c168 := by kernel_rfl
  c171 := by kernel_rfl
  c173 := by kernel_rfl
  c175 := by kernel_rfl
  c210 := by kernel_rfl
  c212 := by kernel_rfl
  c213 := by kernel_rfl
  c232 := by kernel_rfl
  c233 := by kernel_rfl }
open Go.RowKit in
/-- strconv.Atoi, AT EVERY STRING THAT SPELLS AN int ('Lib.atoiAll .. = .ok v'; of whatever length: leading zeros count): v, AND NO ERROR. The world: as it was, or with the one new row that '[]byte(..)' lays. (LAID: no walk: one application.) -/
theorem Tryd.strconv_Atoi_ok (s : ByteArray) (hmax : s.size ≤ 9223372036854775806) (v : Int) (h : Lib.atoiAll s.data.toList = .ok v) (w : World) :
    Calls Tryd.prog 22 #[.string s] w fun e w' => e = .returned (.tuple #[.int .i64 v, .nilIface]) ∧ (w' = w ∨ ∃ t, w' = Lib.bytesWorld w 5 t) := Any.strconv_Atoi_ok Tryd.laysC172 s hmax v h w
open Go.RowKit in
/-- strconv.Atoi, AT EVERY NUMERAL THAT NO int HOLDS ('.range'): THE GREATEST OR THE LEAST int, BY THE SIGN ('Lib.atoiSat'), AND AN ERROR THAT IS NOT nil: a *NumError in a new block N: {Func: "Atoi", Num: s's bytes, Err: what the variable ErrRange holds}. Of what was there nothing has turned. (LAID: no walk: one application.) -/
theorem Tryd.strconv_Atoi_range (s : ByteArray) (hlim : s.size ≤ 281474976710656) (h : Lib.atoiAll s.data.toList = .range) (ev : Value) (w : World) (hv : w.cell? ⟨1, 0, none⟩ = some ev) (hev : ev = .nilIface ∨ ∃ te pe, ev = .iface te pe) :
    Calls Tryd.prog 22 #[.string s] w fun e w' => ∃ N, e = .returned (.tuple #[.int .i64 (Lib.atoiSat s.data.toList), .iface 84 (.pointer (some ⟨N, 0, none⟩))]) ∧ w.heap.size ≤ N ∧ w'.heap[N]? = some (.cells #[.string ⟨#[65, 116, 111, 105]⟩, .string s, ev] 102 (0, 0)) ∧ Below w.heap.size w w' := Any.strconv_Atoi_range Tryd.laysC172 s hlim h ev w hv hev
def Tryd.lays221_ren : Go.Shelf.Ren := ⟨fun | 221 => 39 | 268 => 52 | 138 => 53 | 143 => 54 | 195 => 65 | 197 => 66 | 218 => 67 | 219 => 68 | 260 => 77 | 217 => 78 | 225 => 79 | 224 => 80 | 267 => 81 | 266 => 86 | 314 => 87 | n => n, fun | 9 => 9 | 3 => 3 | 31 => 52 | 4 => 4 | 0 => 0 | 105 => 95 | 21 => 21 | 5 => 5 | 46 => 88 | 119 => 115 | 139 => 118 | 138 => 117 | 146 => 119 | 51 => 106 | n => n, fun | 1 => 3 | 3 => 4 | 4 => 5 | n => n⟩
def Tryd.lays146_ren : Go.Shelf.Ren := ⟨fun | 146 => 20 | 221 => 39 | 268 => 52 | 138 => 53 | 143 => 54 | 195 => 65 | 197 => 66 | 218 => 67 | 219 => 68 | 260 => 77 | 217 => 78 | 225 => 79 | 224 => 80 | 267 => 81 | 266 => 86 | 314 => 87 | n => n, fun | 9 => 9 | 31 => 52 | 3 => 3 | 4 => 4 | 0 => 0 | 105 => 95 | 21 => 21 | 5 => 5 | 46 => 88 | 119 => 115 | 139 => 118 | 138 => 117 | 146 => 119 | 51 => 106 | n => n, fun | 1 => 3 | 3 => 4 | 4 => 5 | n => n⟩
theorem Tryd.lays146 : Go.Proofs.Lays.n146 Tryd.prog Tryd.lays146_ren := {
  mixed := by kernel_rfl
  f138 := Tryd.func53.trans (congrArg some (by kernel_rfl))
  f143 := Tryd.func54.trans (congrArg some (by kernel_rfl))
  f146 := Tryd.func20.trans (congrArg some (by kernel_rfl))
  f195 := Tryd.func65.trans (congrArg some (by kernel_rfl))
  f197 := Tryd.func66.trans (congrArg some (by kernel_rfl))
  f217 := Tryd.func78.trans (congrArg some (by kernel_rfl))
  f218 := Tryd.func67.trans (congrArg some (by kernel_rfl))
  f219 := Tryd.func68.trans (congrArg some (by kernel_rfl))
  f221 := Tryd.func39.trans (congrArg some (by kernel_rfl))
  f224 := Tryd.func80.trans (congrArg some (by kernel_rfl))
  f225 := Tryd.func79.trans (congrArg some (by kernel_rfl))
  f260 := Tryd.func77.trans (congrArg some (by kernel_rfl))
  f266 := Tryd.func86.trans (congrArg some (by kernel_rfl))
  f267 := Tryd.func81.trans (congrArg some (by kernel_rfl))
  f268 := Tryd.func52.trans (congrArg some (by kernel_rfl))
  f314 := Tryd.func87.trans (congrArg some (by kernel_rfl))
  t0 := Tryd.underlying0
  a0 := Tryd.isAgg0
  z0 := Tryd.sizeOf0
  v0 := Tryd.zeroValue0
  t3 := Tryd.underlying3
  a3 := Tryd.isAgg3
  z3 := Tryd.sizeOf3
  v3 := Tryd.zeroValue3
  t4 := Tryd.underlying4
  a4 := Tryd.isAgg4
  z4 := Tryd.sizeOf4
  v4 := Tryd.zeroValue4
  t5 := Tryd.underlying5
  a5 := Tryd.isAgg5
  z5 := Tryd.sizeOf5
  v5 := Tryd.zeroValue5
  t9 := Tryd.underlying9
  a9 := Tryd.isAgg9
  z9 := Tryd.sizeOf9
  v9 := Tryd.zeroValue9
  t21 := Tryd.underlying21
  a21 := Tryd.isAgg21
  z21 := Tryd.sizeOf21
  v21 := Tryd.zeroValue21
  t31 := Tryd.underlying52
  a31 := Tryd.isAgg52
  z31 := Tryd.sizeOf52
  v31 := Tryd.zeroValue52
  t46 := Tryd.underlying88
  a46 := Tryd.isAgg88
  z46 := Tryd.sizeOf88
  v46 := Tryd.zeroValue88
  t51 := Tryd.underlying106
  a51 := Tryd.isAgg106
  z51 := Tryd.sizeOf106
  v51 := Tryd.zeroValue106
  t105 := Tryd.underlying95
  a105 := Tryd.isAgg95
  z105 := Tryd.sizeOf95
  v105 := Tryd.zeroValue95
  t119 := Tryd.underlying115
  a119 := Tryd.isAgg115
  z119 := Tryd.sizeOf115
  t138 := Tryd.underlying117
  a138 := Tryd.isAgg117
  z138 := Tryd.sizeOf117
  v138 := Tryd.zeroValue117
  t139 := Tryd.underlying118
  a139 := Tryd.isAgg118
  z139 := Tryd.sizeOf118
  v139 := Tryd.zeroValue118
  t146 := Tryd.underlying119
  a146 := Tryd.isAgg119
  z146 := Tryd.sizeOf119
  v146 := Tryd.zeroValue119
  g1 := by kernel_rfl
  g3 := by kernel_rfl
  g4 := by kernel_rfl }
open Go.RowKit Go.Lib in
/-- strings.Split. (LAID: no walk: one application.) -/
theorem Tryd.strings_Split (s sep : ByteArray) (m : Int) (w : World) (hs : s.size < 4294967281) (hm : w.cell? ⟨3, 0, none⟩ = some (.int .i64 m)) (h1 : 1 ≤ sep.size) :
    Calls Tryd.prog 20 #[.string s, .string sep] w fun e w' =>
      e = .returned (.slice (some ⟨w.heap.size, 0, none⟩) (Lib.countB s sep + 1) (Lib.countB s sep + 1)) ∧ w' = w.alloc (.cells ((Lib.splitB sep 0 (Lib.countB s sep) s).map Value.string).toArray 9) := Any.strings_Split Tryd.lays146 (by kernel_rfl) s sep m w hs hm h1
end Go.Proofs
end
section
namespace Go.Proofs.YtfpikmeiooangaaDoor.PFlowTexts
open Go.RowKit Go.Proofs.YtfpikmeiooangaaDoorW.PrintWords Go.Proofs.YtfpikmeiooangaaDoorW.PrintLast Go.Proofs.YtfpikmeiooangaaDoorW.PrintMore
def numV (s : ByteArray) : Int := match Lib.atoiAll s.data.toList with | .ok v => v | .range => Lib.atoiSat s.data.toList | _ => 0
def numOk (s : ByteArray) : Bool := match Lib.atoiAll s.data.toList with | .ok _ => true | _ => false
/-- What the world holds in the library's variables that are read. -/
structure Glob (w : World) : Prop where
  most : ∃ m, w.cell? ⟨3, 0, none⟩ = some (.int .i64 m)
  syn : ∃ t p, w.cell? ⟨0, 0, none⟩ = some (.iface t p)
  rng : ∃ t p, w.cell? ⟨1, 0, none⟩ = some (.iface t p)
theorem Glob.step {w w' : World} (h : Glob w) (hb : Below w.heap.size w w') : Glob w' := by
  obtain ⟨⟨m, h1⟩, ⟨t, p, h2⟩, ⟨t', p', h3⟩⟩ := h
  exact ⟨⟨m, pw_cell_below hb h1⟩, ⟨t, p, pw_cell_below hb h2⟩, ⟨t', p', pw_cell_below hb h3⟩⟩
/-- strconv.Atoi, whatever the text: its value, its error, new memory alone. -/
theorem atoi_call (s : ByteArray) (hs : s.size ≤ 100000) (w : World) (hg : Glob w) :
    Calls Tryd.prog 22 #[.string s] w fun e w' => (∃ x, e = .returned (.tuple #[.int .i64 (numV s), x]) ∧ (if numOk s = true then x = .nilIface else ∃ a, x = .iface 84 (.pointer (some a)))) ∧ Below w.heap.size w w' := by
  obtain ⟨_, ⟨t, p, h2⟩, ⟨t', p', h3⟩⟩ := hg
  rcases h : Lib.atoiAll s.data.toList with v | _ | _
  · refine (Tryd.strconv_Atoi_ok s (by omega) v h w).mono ?_
    rintro e w' ⟨rfl, hw⟩
    refine ⟨⟨.nilIface, by simp [numV, h], by simp [numOk, h]⟩, ?_⟩
    rcases hw with rfl | ⟨u, rfl⟩
    · exact Below.refl _ _
    · exact bytes_below (Below.refl _ _) (Nat.le_refl _) 5 u
  · refine (Any.strconv_Atoi_syntax Tryd.laysC172 s (by omega) h _ w h2 (.inr ⟨_, _, rfl⟩)).mono ?_
    rintro e w' ⟨N, rfl, _, _, hb⟩
    exact ⟨⟨.iface 84 (.pointer (some ⟨N, 0, none⟩)), by simp [numV, h]; rfl, by simp [numOk, h]⟩, hb⟩
  · refine (Tryd.strconv_Atoi_range s (by omega) h _ w h3 (.inr ⟨_, _, rfl⟩)).mono ?_
    rintro e w' ⟨N, rfl, _, _, hb⟩
    exact ⟨⟨.iface 84 (.pointer (some ⟨N, 0, none⟩)), by simp [numV, h], by simp [numOk, h]⟩, hb⟩
set_option maxHeartbeats 400000 in
set_option maxRecDepth 100000 in
theorem number_calls (s : ByteArray) (hs : s.size ≤ 100000) (ok : Bool) (b : Nat) (w : World) (hg : Glob w) (hb : w.heap[b]? = some (.cells #[.bool ok] 4 (0, 0))) :
    Calls Tryd.prog 21 #[.string s, .pointer (some ⟨b, 0, none⟩)] w fun e w' => e = .returned (.int .i64 (numV s)) ∧ w.grownBy w' (some b) ∧ w'.heap[b]? = some (.cells #[.bool (ok && numOk s)] 4 (0, 0)) := by
  have hlt := blk_lt hb
  go_enter Tryd.func21, Tryd.ntmps21
  go_wp2_with fail
  refine (atoi_call s hs w hg).mono ?_
  rintro e w1 ⟨⟨x, rfl, hx⟩, hB⟩
  have hb1 : w1.heap[b]? = some (.cells #[.bool ok] 4 (0, 0)) := (hB.block b hlt).trans hb
  have c1 : w1.cell? ⟨b, 0, none⟩ = some (.bool ok) := (blk_cell hb1 0).trans rfl
  have f1 := blk_frozen hb1 0
  have HB := Aside0.mk hB
  have HB1 := Aside0.mk hb1
  clear hB hb1 hb hg hlt
  have hset : ∀ v : Bool, w.grownBy (w1.setCell ⟨b, 0, none⟩ (.bool v)) (some b) ∧ (w1.setCell ⟨b, 0, none⟩ (.bool v)).heap[b]? = some (.cells #[.bool v] 4 (0, 0)) := fun v =>
    ⟨⟨HB.out.os, HB.out.tape, HB.out.output, by simpa [World.setCell] using HB.out.size, fun k hk hne => (Below.heap_setCell _ _ _ _ (fun e => hne (by rw [e]))).trans (HB.out.block k hk)⟩, by simpa using blk_set HB1.out 0 (.bool v)⟩
  have HS := Lib.hid hset
  clear hset
  cases hok : ok with
  | false =>
    subst hok
    go_wp2
    go_ret
    exact ⟨rfl, (HS.out false).1, by simpa using (HS.out false).2⟩
  | true =>
    subst hok
    cases hn : numOk s with
    | true =>
      rw [if_pos hn] at hx
      subst hx
      have HN := Lib.hid hn
      clear hn
      go_wp2
      go_ret
      exact ⟨rfl, (HS.out true).1, by rw [HN.out]; simpa using (HS.out true).2⟩
    | false =>
      rw [if_neg (by simp [hn])] at hx
      obtain ⟨a, rfl⟩ := hx
      have HN := Lib.hid hn
      clear hn
      go_wp2
      go_ret
      exact ⟨rfl, (HS.out false).1, by rw [HN.out]; simpa using (HS.out false).2⟩
end Go.Proofs.YtfpikmeiooangaaDoor.PFlowTexts
end
section
namespace Go.Proofs.YtfpikmeiooangaaDoor.PFlowTexts
open Go.RowKit Go.Proofs.YtfpikmeiooangaaDoorW.PrintWords Go.Proofs.YtfpikmeiooangaaDoorW.PrintLast Go.Proofs.YtfpikmeiooangaaDoorW.PrintMore
theorem R_kept {α : Type} {d : Kd α} {e base : Nat} {v : Value} {xs : List α} {W W' : World} {b : Nat} (h : d.R e W base (fun _ => True) v xs) (hg : W.grownBy W' (some b)) (hb : b < base) : d.R e W' base (fun _ => True) v xs :=
  Kd.R_mono (Kd.R_grown (Kd.R_bound h) hg (fun k hk e => by injection e with e; have := hk.2.1; omega)) (fun _ _ => trivial)
theorem set_grown (W : World) (g i : Nat) (u : Value) : W.grownBy (W.setCell ⟨g, i, none⟩ u) (some g) :=
  ⟨rfl, rfl, rfl, by simp [World.setCell], fun k _ hne => Below.heap_setCell _ _ _ _ (fun e => hne (by rw [e]))⟩
structure ParI (w : World) (ws : List ByteArray) (ok : Bool) (Wv Hv : Int) (dv pv : Value) (ds : List Int) (ps : List S50) (W : World) : Prop where
  below : Below w.heap.size w W
  size : w.heap.size + 4 ≤ W.heap.size
  res : W.heap[w.heap.size]? = some (.cells #[.int .i64 0, .int .i64 0, .slice none 0 0, .slice none 0 0] 25 (0, 0))
  wds : W.heap[w.heap.size + 1]? = some (.cells (ws.map Value.string).toArray 9 (0, 0))
  fld : W.heap[w.heap.size + 1 + 1]? = some (.cells #[.int .i64 Wv, .int .i64 Hv, dv, pv] 25 (0, 0))
  okb : W.heap[w.heap.size + 1 + 1 + 1]? = some (.cells #[.bool ok] 4 (0, 0))
  dsR : Kd.R (Kd.int .i64) 3 W (w.heap.size + 4) (fun _ => True) dv ds
  psR : Kd.R k50 50 W (w.heap.size + 4) (fun _ => True) pv ps
section
variable {w W W' : World} {ws : List ByteArray} {ok : Bool} {Wv Hv : Int} {dv pv : Value} {ds : List Int} {ps : List S50}
theorem ParI.start (w : World) (ws : List ByteArray) : ParI w ws true 0 0 (.slice none 0 0) (.slice none 0 0) [] []
    ((((w.alloc (.cells #[.int .i64 0, .int .i64 0, .slice none 0 0, .slice none 0 0] 25)).alloc (.cells (ws.map Value.string).toArray 9)).alloc (.cells #[.int .i64 0, .int .i64 0, .slice none 0 0, .slice none 0 0] 25)).alloc (.cells #[.bool true] 4)) := by
  have nw : ∀ (W : World) (o : Obj) (n : Nat), n = W.heap.size → (W.alloc o).heap[n]? = some o := fun W o n e => by rw [e]; exact heap_alloc_new W o
  exact ⟨below_alloc (below_alloc (below_alloc (below_alloc (Below.refl _ _) _) _) _) _, by simp, blk_alloc (blk_alloc (blk_alloc (nw _ _ _ rfl) _) _) _, blk_alloc (blk_alloc (nw _ _ _ (by simp)) _) _, blk_alloc (nw _ _ _ (by simp)) _, nw _ _ _ (by simp), Kd.R_nil _ _ _ _ _, Kd.R_nil _ _ _ _ _⟩
theorem ParI.grows (h : ParI w ws ok Wv Hv dv pv ds ps W) (hb : Below W.heap.size W W') : ParI w ws ok Wv Hv dv pv ds ps W' :=
  ⟨below_step h.below hb, Nat.le_trans h.size hb.size, (hb.block _ (blk_lt h.res)).trans h.res, (hb.block _ (blk_lt h.wds)).trans h.wds, (hb.block _ (blk_lt h.fld)).trans h.fld, (hb.block _ (blk_lt h.okb)).trans h.okb, Kd.R_below h.dsR hb, Kd.R_below h.psR hb⟩
theorem ParI.drew (h : ParI w ws ok Wv Hv dv pv ds ps W) : ParI w ws ok Wv Hv dv pv ds ps W.drew := h.grows (Below.refl _ _).drew
theorem ParI.num {ok' : Bool} (h : ParI w ws ok Wv Hv dv pv ds ps W) (hg : W.grownBy W' (some (w.heap.size + 1 + 1 + 1))) (ho : W'.heap[w.heap.size + 1 + 1 + 1]? = some (.cells #[.bool ok'] 4 (0, 0))) : ParI w ws ok' Wv Hv dv pv ds ps W' :=
  ⟨h.below.grown hg (by have := h.size; omega) (fun k hk => by injection hk with hk; omega), Nat.le_trans h.size hg.size, blk_grown h.res hg (by intro e; injection e; omega), blk_grown h.wds hg (by intro e; injection e; omega), blk_grown h.fld hg (by intro e; injection e; omega), ho, R_kept h.dsR hg (by omega), R_kept h.psR hg (by omega)⟩
theorem ParI.setF {c0 c1 : Int} {c2 c3 : Value} (h : ParI w ws ok Wv Hv dv pv ds ps W) (i : Nat) (u : Value) (e : (#[.int .i64 Wv, .int .i64 Hv, dv, pv] : Array Value).setIfInBounds i u = #[.int .i64 c0, .int .i64 c1, c2, c3])
    (hd : Kd.R (Kd.int .i64) 3 W (w.heap.size + 4) (fun _ => True) c2 ds) (hp : Kd.R k50 50 W (w.heap.size + 4) (fun _ => True) c3 ps) : ParI w ws ok c0 c1 c2 c3 ds ps (W.setCell ⟨w.heap.size + 1 + 1, i, none⟩ u) := by
  have hg := set_grown W (w.heap.size + 1 + 1) i u
  exact ⟨h.below.grown hg (by have := h.size; omega) (fun k hk => by injection hk with hk; omega), Nat.le_trans h.size hg.size, blk_grown h.res hg (by intro e; injection e; omega), blk_grown h.wds hg (by intro e; injection e; omega), blk_put h.fld i u e, blk_grown h.okb hg (by intro e; injection e; omega), R_kept hd hg (by omega), R_kept hp hg (by omega)⟩
theorem ParI.setW (h : ParI w ws ok Wv Hv dv pv ds ps W) (n : Int) : ParI w ws ok n Hv dv pv ds ps (W.setCell ⟨w.heap.size + 1 + 1, 0, none⟩ (.int .i64 n)) := h.setF 0 _ rfl h.dsR h.psR
theorem ParI.setH (h : ParI w ws ok Wv Hv dv pv ds ps W) (n : Int) : ParI w ws ok Wv n dv pv ds ps (W.setCell ⟨w.heap.size + 1 + 1, 1, none⟩ (.int .i64 n)) := h.setF 1 _ rfl h.dsR h.psR
/-- An append to the directions, stored back. -/
theorem ParI.appD {v1 : Value} {x : Int} (h : ParI w ws ok Wv Hv dv pv ds ps W) (hr : Kd.R (Kd.int .i64) 3 W' (w.heap.size + 4) (fun _ => True) v1 (ds ++ [x])) (hg : W.grownBy W' dv.ownBlock) : ParI w ws ok Wv Hv v1 pv (ds ++ [x]) ps (W'.setCell ⟨w.heap.size + 1 + 1, 2, none⟩ v1) := by
  have hb : ∀ k, dv.ownBlock = some k → w.heap.size + 4 ≤ k := fun k hk => (Kd.R_bound h.dsR).1 k hk |>.2.1
  have ne : ∀ j, j < w.heap.size + 4 → some j ≠ dv.ownBlock := fun j hj e => by have := hb j e.symm; omega
  have h2 : ParI w ws ok Wv Hv dv pv (ds ++ [x]) ps (W'.setCell ⟨w.heap.size + 1 + 1, 2, none⟩ v1) → True := fun _ => trivial
  have hp : Kd.R k50 50 W' (w.heap.size + 4) (fun _ => True) pv ps := Kd.R_over' h.psR (Kd.R_typed h.dsR) (by decide) hg
  have hg2 := set_grown W' (w.heap.size + 1 + 1) 2 v1
  have hz : W'.heap.size ≥ W.heap.size := hg.size
  have hsz := h.size
  exact ⟨(h.below.grown hg (by omega) (fun k hk => by have := hb k hk; omega)).grown hg2 (by omega) (fun k hk => by injection hk with hk; omega), Nat.le_trans (Nat.le_trans h.size hg.size) hg2.size,
    blk_grown (blk_grown h.res hg (ne _ (by omega))) hg2 (by intro e; injection e; omega), blk_grown (blk_grown h.wds hg (ne _ (by omega))) hg2 (by intro e; injection e; omega),
    blk_put (blk_grown h.fld hg (ne _ (by omega))) 2 v1 rfl, blk_grown (blk_grown h.okb hg (ne _ (by omega))) hg2 (by intro e; injection e; omega), R_kept hr hg2 (by omega), R_kept hp hg2 (by omega)⟩
/-- An append to the partings, stored back. -/
theorem ParI.appP {v1 : Value} {x : S50} (h : ParI w ws ok Wv Hv dv pv ds ps W) (hr : Kd.R k50 50 W' (w.heap.size + 4) (fun _ => True) v1 (ps ++ [x])) (hg : W.grownBy W' pv.ownBlock) : ParI w ws ok Wv Hv dv v1 ds (ps ++ [x]) (W'.setCell ⟨w.heap.size + 1 + 1, 3, none⟩ v1) := by
  have hb : ∀ k, pv.ownBlock = some k → w.heap.size + 4 ≤ k := fun k hk => (Kd.R_bound h.psR).1 k hk |>.2.1
  have ne : ∀ j, j < w.heap.size + 4 → some j ≠ pv.ownBlock := fun j hj e => by have := hb j e.symm; omega
  have hd : Kd.R (Kd.int .i64) 3 W' (w.heap.size + 4) (fun _ => True) dv ds := Kd.R_over' h.dsR (Kd.R_typed h.psR) (by decide) hg
  have hg2 := set_grown W' (w.heap.size + 1 + 1) 3 v1
  have hz : W'.heap.size ≥ W.heap.size := hg.size
  have hsz := h.size
  exact ⟨(h.below.grown hg (by omega) (fun k hk => by have := hb k hk; omega)).grown hg2 (by omega) (fun k hk => by injection hk with hk; omega), Nat.le_trans (Nat.le_trans h.size hg.size) hg2.size,
    blk_grown (blk_grown h.res hg (ne _ (by omega))) hg2 (by intro e; injection e; omega), blk_grown (blk_grown h.wds hg (ne _ (by omega))) hg2 (by intro e; injection e; omega),
    blk_put (blk_grown h.fld hg (ne _ (by omega))) 3 v1 rfl, blk_grown (blk_grown h.okb hg (ne _ (by omega))) hg2 (by intro e; injection e; omega), R_kept hd hg2 (by omega), R_kept hr hg2 (by omega)⟩
/-- A word. -/
theorem ParI.word (h : ParI w ws ok Wv Hv dv pv ds ps W) (i : Nat) (hi : i < ws.length) : W.cell? ⟨w.heap.size + 1, i, none⟩ = some (.string (ws.getD i ByteArray.empty)) := by
  refine (blk_cell h.wds i).trans ?_
  simp [List.getD_eq_getElem?_getD, hi]
theorem ParI.num_call (h : ParI w ws ok Wv Hv dv pv ds ps W) (hg : Glob w) (s : ByteArray) (hs : s.size ≤ 100000) :
    Calls Tryd.prog 21 #[.string s, .pointer (some ⟨w.heap.size + 1 + 1 + 1, 0, none⟩)] W fun e W' => e = .returned (.int .i64 (numV s)) ∧ ParI w ws (ok && numOk s) Wv Hv dv pv ds ps W' :=
  (number_calls s hs ok _ W (hg.step h.below) h.okb).mono fun _ _ ⟨he, hg, ho⟩ => ⟨he, h.num hg ho⟩
end
end Go.Proofs.YtfpikmeiooangaaDoor.PFlowTexts
end
