import Derived.Shelf.Strings.Builder1
import Derived.Shelf.Strings.Builder2
import Derived.Shelf.Strings.OnBuilder
import Derived.Shelf.Small.Wraps
import Derived.Shelf.Strings.BuilderF
import Derived.Shelf.Strings.BuilderK
import Derived.Shelf.Utf8.RuneCount
import Derived.Shelf.Strings.Builder2Cap
import Derived.Shelf.Strconv.Itoa0
import Derived.Shelf.Strconv.Itoa1
import Derived.Shelf.LaysM
import Derived.Shelf.Strconv.Itoa2
import Derived.Shelf.Strconv.Itoa3
import Derived.Shelf.Strconv.Clone
import Derived.Shelf.Strconv.SyntaxError
import Derived.Shelf.LaysC
import Derived.Shelf.Strconv.ToError
import Derived.Shelf.Strconv.Lower
import Derived.Shelf.Strconv.ParseUint10
import Derived.Shelf.Strconv.ParseUint10Empty
import Derived.Shelf.Strconv.ParseUint10Any
import Derived.Shelf.Strconv.RangeError
import Derived.Shelf.Strconv.ToErrorRange
import Derived.Shelf.Strconv.ParseUintEmpty
import Derived.Shelf.Strconv.ParseUint10b64
import Derived.Shelf.Strconv.ParseUint10b32
import Derived.Shelf.Strconv.ParseUint10b16
import Derived.Shelf.Strconv.ParseUint10b8
import Derived.Shelf.Strconv.ParseUint10At
import Derived.Ground.MpProg
import Derived.Shelf.Pu.ParseUintPublic10
import Derived.Shelf.Pu.ErrVarParseUint
import Derived.Shelf.Strings.Search1
import Derived.Shelf.Strings.Search2
import Derived.Shelf.Strings.Search3
import Derived.Shelf.Strings.Cut
import Derived.Shelf.Strings.Count
import Derived.Shelf.Strings.Shaped
import Derived.Shelf.Strings.Prefix
import Derived.Shelf.Strings.Split
import Derived.Shelf.Strings.SplitShaped
import Derived.Shelf.Unicode.Decode
import Derived.Shelf.Strings.RuneCount
import Derived.Shelf.Strings.Explode
import Derived.Shelf.Unicode.DecodeSlow
import Derived.Shelf.Unicode.DecodeAny
import Derived.Shelf.Strings.BuilderCap
import Derived.Test.YtodmbjbfigifnaaGreatDoorProg
import Derived.Test.YtodmbjbfigifnaaGreatDoorG0
import Derived.Test.YtodmbjbfigifnaaGreatDoorG3
import Derived.Test.YtodmbjbfigifnaaGreatDoorG1
import Derived.WalkSmall
import Derived.Lib.AppendIntMem
import Derived.BigQuiet
import Derived.Deep.QuietTactic
import Derived.Lib.Hide
import Derived.WalkKit
import Derived.Lib.IndexBytes
import Derived.Lib.CutLaws
import Derived.Lib.SplitLaws
import Derived.Lib.IndexMore
import Derived.Lib.Replace
namespace Go.Proofs
open Go.Shelf
def Tryz.lays156_ren : Go.Shelf.Ren := ⟨fun | 156 => 13 | 165 => 28 | 166 => 29 | 169 => 30 | 240 => 46 | 241 => 47 | 276 => 58 | 277 => 59 | n => n, fun | 31 => 39 | 9 => 9 | 3 => 3 | 4 => 4 | 0 => 0 | 20 => 20 | 72 => 66 | 76 => 70 | 70 => 63 | 37 => 64 | 75 => 69 | 127 => 80 | 164 => 90 | 5 => 5 | 80 => 58 | n => n, fun | n => n⟩
theorem Tryz.lays156 : Go.Proofs.Lays.n156 Tryz.prog Tryz.lays156_ren := {
  mixed := by kernel_rfl
  f156 := Tryz.func13.trans (congrArg some (by kernel_rfl))
  f165 := Tryz.func28.trans (congrArg some (by kernel_rfl))
  f166 := Tryz.func29.trans (congrArg some (by kernel_rfl))
  f169 := Tryz.func30.trans (congrArg some (by kernel_rfl))
  f240 := Tryz.func46.trans (congrArg some (by kernel_rfl))
  f241 := Tryz.func47.trans (congrArg some (by kernel_rfl))
  f276 := Tryz.func58.trans (congrArg some (by kernel_rfl))
  f277 := Tryz.func59.trans (congrArg some (by kernel_rfl))
  t0 := Tryz.underlying0
  a0 := Tryz.isAgg0
  z0 := Tryz.sizeOf0
  v0 := Tryz.zeroValue0
  t3 := Tryz.underlying3
  a3 := Tryz.isAgg3
  z3 := Tryz.sizeOf3
  v3 := Tryz.zeroValue3
  t4 := Tryz.underlying4
  a4 := Tryz.isAgg4
  z4 := Tryz.sizeOf4
  v4 := Tryz.zeroValue4
  t9 := Tryz.underlying9
  a9 := Tryz.isAgg9
  z9 := Tryz.sizeOf9
  v9 := Tryz.zeroValue9
  t20 := Tryz.underlying20
  a20 := Tryz.isAgg20
  z20 := Tryz.sizeOf20
  v20 := Tryz.zeroValue20
  t31 := Tryz.underlying39
  a31 := Tryz.isAgg39
  z31 := Tryz.sizeOf39
  v31 := Tryz.zeroValue39
  t37 := Tryz.underlying64
  a37 := Tryz.isAgg64
  z37 := Tryz.sizeOf64
  v37 := Tryz.zeroValue64
  t70 := Tryz.underlying63
  a70 := Tryz.isAgg63
  z70 := Tryz.sizeOf63
  v70 := Tryz.zeroValue63
  t72 := Tryz.underlying66
  a72 := Tryz.isAgg66
  z72 := Tryz.sizeOf66
  v72 := Tryz.zeroValue66
  t75 := Tryz.underlying69
  a75 := Tryz.isAgg69
  z75 := Tryz.sizeOf69
  v75 := Tryz.zeroValue69
  t76 := Tryz.underlying70
  a76 := Tryz.isAgg70
  z76 := Tryz.sizeOf70
  v76 := Tryz.zeroValue70
  t127 := Tryz.underlying80
  a127 := Tryz.isAgg80
  z127 := Tryz.sizeOf80
  v127 := Tryz.zeroValue80
  t164 := Tryz.underlying90
  a164 := Tryz.isAgg90
  z164 := Tryz.sizeOf90
  v164 := Tryz.zeroValue90 }
theorem Tryz.Builder_Extra_156 : Builder.Extra Tryz.prog Tryz.lays156_ren := {
  sizeBuilder := by kernel_rfl
  liesBuilder := by kernel_rfl
  t5 := Tryz.underlying5
  a5 := Tryz.isAgg5
  z5 := Tryz.sizeOf5
  v5 := Tryz.zeroValue5
  infoByte := by kernel_rfl
  cellsByte := by kernel_rfl
  sizeByte := by kernel_rfl
  neB5 := by decide }
open Go.RowKit in
/-- strings.Join: "Join concatenates the elements of its first argument to create a single string. The separator string sep is placed between elements in the resulting string.": HOWEVER MANY ELEMENTS. Below the heap's end the world is as_ it was. (LAID: no walk: one application.) -/
theorem Tryz.strings_Join (bk o c : Nat) (xs : List ByteArray) (sep : ByteArray) (w : World) (hcells : ∀ (j : Nat) x, xs[j]? = some x → w.cell? ⟨bk, o + j, none⟩ = some (.string x)) (hbk : bk < w.heap.size) (hN : xs.length ≤ 140737488355328) (hcap : xs.length ≤ c) (hlen : (Lib.join (xs.map (·.data.toList)) sep.data.toList).length ≤ 140737488355328) :
    Calls Tryz.prog 13 #[.slice (some ⟨bk, o, none⟩) xs.length c, .string sep] w fun e w' => e = .returned (.string ⟨(Lib.join (xs.map (·.data.toList)) sep.data.toList).toArray⟩) ∧ Below w.heap.size w w' := Any.strings_Join Tryz.lays156 Tryz.Builder_Extra_156 bk o c xs sep w hcells hbk hN hcap hlen
def Tryz.lays103_ren : Go.Shelf.Ren := ⟨fun | 103 => 67 | 210 => 79 | 206 => 90 | n => n, fun | 9 => 9 | 4 => 4 | 24 => 83 | 3 => 3 | n => n, fun | n => n⟩
theorem Tryz.lays103 : Go.Proofs.Lays.n103 Tryz.prog Tryz.lays103_ren := {
  mixed := by kernel_rfl
  f103 := Tryz.func67.trans (congrArg some (by kernel_rfl))
  f206 := Tryz.func90.trans (congrArg some (by kernel_rfl))
  f210 := Tryz.func79.trans (congrArg some (by kernel_rfl))
  t3 := Tryz.underlying3
  a3 := Tryz.isAgg3
  z3 := Tryz.sizeOf3
  v3 := Tryz.zeroValue3
  t4 := Tryz.underlying4
  a4 := Tryz.isAgg4
  z4 := Tryz.sizeOf4
  v4 := Tryz.zeroValue4
  t9 := Tryz.underlying9
  a9 := Tryz.isAgg9
  z9 := Tryz.sizeOf9
  v9 := Tryz.zeroValue9
  t24 := Tryz.underlying83
  a24 := Tryz.isAgg83
  z24 := Tryz.sizeOf83
  v24 := Tryz.zeroValue83 }
open Go.RowKit in
/-- strings.CutPrefix: "CutPrefix returns s without the provided leading prefix string and reports whether it found the prefix. If s doesn't start with prefix, CutPrefix returns s, false. If prefix is the empty string, CutPrefix returns s, true.": IT RETURNS '(Lib.trimPrefix s p, Lib.hasPrefix s p)'; the world is as_ it was. (LAID: no walk: one application.) -/
theorem Tryz.strings_CutPrefix (s p : ByteArray) (w : World) :
    Calls Tryz.prog 67 #[.string s, .string p] w fun e w' => e = .returned (.tuple #[.string ⟨(Lib.trimPrefix s.data.toList p.data.toList).toArray⟩, .bool (Lib.hasPrefix s.data.toList p.data.toList)]) ∧ w' = w := Any.strings_CutPrefix Tryz.lays103 s p w
def Tryz.laysM171_ren : Go.Shelf.Ren := ⟨fun | 171 => 44 | 243 => 57 | 246 => 70 | 283 => 82 | 284 => 83 | 285 => 84 | 286 => 85 | 129 => 92 | 317 => 91 | 318 => 93 | 319 => 94 | 320 => 95 | 337 => 102 | 338 => 103 | n => n, fun | 3 => 3 | 9 => 9 | 2 => 2 | 4 => 4 | 171 => 110 | 0 => 0 | 53 => 105 | 37 => 64 | 5 => 5 | 173 => 113 | 212 => 125 | 51 => 119 | 20 => 20 | 213 => 126 | 46 => 79 | 232 => 139 | 233 => 140 | n => n, fun | 17 => 3 | 18 => 6 | 19 => 7 | n => n⟩
theorem Tryz.laysM171 : Go.Proofs.LaysM.n171 Tryz.prog Tryz.laysM171_ren := {
  mixed := by kernel_rfl
  f129 := Tryz.func92.trans (congrArg some (by kernel_rfl))
  f171 := Tryz.func44.trans (congrArg some (by kernel_rfl))
  f243 := Tryz.func57.trans (congrArg some (by kernel_rfl))
  f246 := Tryz.func70.trans (congrArg some (by kernel_rfl))
  f283 := Tryz.func82.trans (congrArg some (by kernel_rfl))
  f284 := Tryz.func83.trans (congrArg some (by kernel_rfl))
  f285 := Tryz.func84.trans (congrArg some (by kernel_rfl))
  f286 := Tryz.func85.trans (congrArg some (by kernel_rfl))
  f317 := Tryz.func91.trans (congrArg some (by kernel_rfl))
  f318 := Tryz.func93.trans (congrArg some (by kernel_rfl))
  f319 := Tryz.func94.trans (congrArg some (by kernel_rfl))
  f320 := Tryz.func95.trans (congrArg some (by kernel_rfl))
  f337 := Tryz.func102.trans (congrArg some (by kernel_rfl))
  f338 := Tryz.func103.trans (congrArg some (by kernel_rfl))
  t0 := Tryz.underlying0
  a0 := Tryz.isAgg0
  z0 := Tryz.sizeOf0
  v0 := Tryz.zeroValue0
  t2 := Tryz.underlying2
  a2 := Tryz.isAgg2
  z2 := Tryz.sizeOf2
  v2 := Tryz.zeroValue2
  t3 := Tryz.underlying3
  a3 := Tryz.isAgg3
  z3 := Tryz.sizeOf3
  v3 := Tryz.zeroValue3
  t4 := Tryz.underlying4
  a4 := Tryz.isAgg4
  z4 := Tryz.sizeOf4
  v4 := Tryz.zeroValue4
  t5 := Tryz.underlying5
  a5 := Tryz.isAgg5
  z5 := Tryz.sizeOf5
  v5 := Tryz.zeroValue5
  t9 := Tryz.underlying9
  a9 := Tryz.isAgg9
  z9 := Tryz.sizeOf9
  v9 := Tryz.zeroValue9
  t20 := Tryz.underlying20
  a20 := Tryz.isAgg20
  z20 := Tryz.sizeOf20
  v20 := Tryz.zeroValue20
  t37 := Tryz.underlying64
  a37 := Tryz.isAgg64
  z37 := Tryz.sizeOf64
  v37 := Tryz.zeroValue64
  t46 := Tryz.underlying79
  a46 := Tryz.isAgg79
  z46 := Tryz.sizeOf79
  v46 := Tryz.zeroValue79
  t51 := Tryz.underlying119
  a51 := Tryz.isAgg119
  z51 := Tryz.sizeOf119
  v51 := Tryz.zeroValue119
  t53 := Tryz.underlying105
  a53 := Tryz.isAgg105
  z53 := Tryz.sizeOf105
  v53 := Tryz.zeroValue105
  t171 := Tryz.underlying110
  a171 := Tryz.isAgg110
  z171 := Tryz.sizeOf110
  v171 := Tryz.zeroValue110
  t173 := Tryz.underlying113
  a173 := Tryz.isAgg113
  z173 := Tryz.sizeOf113
  v173 := Tryz.zeroValue113
  t212 := Tryz.underlying125
  a212 := Tryz.isAgg125
  z212 := Tryz.sizeOf125
  v212 := Tryz.zeroValue125
  t213 := Tryz.underlying126
  a213 := Tryz.isAgg126
  z213 := Tryz.sizeOf126
  t232 := Tryz.underlying139
  a232 := Tryz.isAgg139
  z232 := Tryz.sizeOf139
  v232 := Tryz.zeroValue139
  t233 := Tryz.underlying140
  a233 := Tryz.isAgg140
  z233 := Tryz.sizeOf140
  v233 := Tryz.zeroValue140
  g17 := by kernel_rfl
  g18 := by kernel_rfl
  g19 := by kernel_rfl
  i0 := by kernel_rfl
  i2 := by kernel_rfl
  i3 := by kernel_rfl
  i4 := by kernel_rfl
  i5 := by kernel_rfl
  i9 := by kernel_rfl
  i20 := by kernel_rfl
  i37 := by kernel_rfl
  i46 := by kernel_rfl
  i51 := by kernel_rfl
  i53 := by kernel_rfl
  i171 := by kernel_rfl
  i173 := by kernel_rfl
  i212 := by kernel_rfl
  i232 := by kernel_rfl
  i233 := by kernel_rfl
  m17 := by kernel_rfl
  m18 := by kernel_rfl
  m19 := by kernel_rfl }
open Go.RowKit Go.Sort Go.Lib in
/-- strconv.Itoa: "Itoa is equivalent to FormatInt(int64(i), 10).": i's DECIMAL NUMERAL ('Lib.itoa': a '-' where i is negative, then the digits), FOR EVERY int. The world behind the call: the world before it, new blocks behind the heap (the library's 'var a [24]byte'), draws. (LAID: no walk: one application.) -/
theorem Tryz.strconv_Itoa (n : Int) (h0 : -9223372036854775808 ≤ n) (h1 : n ≤ 9223372036854775807) (w : World) (htab : Lib.TabIs Tryz.prog w "internal/strconv.uint64pow10" .u64 Lib.pow10Tab) :
    Calls Tryz.prog 44 #[.int .i64 n] w fun e w' => e = .returned (.string ⟨(Lib.itoa n).toArray⟩) ∧ ∃ k os, w' = grow (w.drewN k) os := Any.strconv_Itoa Tryz.laysM171 n h0 h1 w htab
def Tryz.laysC245_ren : Go.Shelf.Ren := ⟨fun | 245 => 89 | 279 => 98 | 280 => 99 | 281 => 100 | 282 => 101 | 316 => 104 | 171 => 44 | 205 => 105 | 243 => 57 | 246 => 70 | 283 => 82 | 284 => 83 | 285 => 84 | 286 => 85 | 129 => 92 | 317 => 91 | 318 => 93 | 319 => 94 | 320 => 95 | 337 => 102 | 338 => 103 | n => n, fun | 9 => 9 | 3 => 3 | 75 => 69 | 167 => 129 | 4 => 4 | 168 => 132 | 210 => 137 | 37 => 64 | 0 => 0 | 127 => 80 | 145 => 143 | 143 => 141 | 2 => 2 | 171 => 110 | 53 => 105 | 5 => 5 | 173 => 113 | 212 => 125 | 51 => 119 | 20 => 20 | 213 => 126 | 46 => 79 | 232 => 139 | 233 => 140 | 80 => 58 | n => n, fun | 15 => 4 | 16 => 5 | 17 => 3 | 18 => 6 | 19 => 7 | n => n⟩
theorem Tryz.laysC245 : Go.Proofs.LaysC.n245 Tryz.prog Tryz.laysC245_ren := {
  mixed := by kernel_rfl
  f129 := Tryz.func92.trans (congrArg some (by kernel_rfl))
  f171 := Tryz.func44.trans (congrArg some (by kernel_rfl))
  f205 := Tryz.func105.trans (congrArg some (by kernel_rfl))
  f243 := Tryz.func57.trans (congrArg some (by kernel_rfl))
  f245 := Tryz.func89.trans (congrArg some (by kernel_rfl))
  f246 := Tryz.func70.trans (congrArg some (by kernel_rfl))
  f279 := Tryz.func98.trans (congrArg some (by kernel_rfl))
  f280 := Tryz.func99.trans (congrArg some (by kernel_rfl))
  f281 := Tryz.func100.trans (congrArg some (by kernel_rfl))
  f282 := Tryz.func101.trans (congrArg some (by kernel_rfl))
  f283 := Tryz.func82.trans (congrArg some (by kernel_rfl))
  f284 := Tryz.func83.trans (congrArg some (by kernel_rfl))
  f285 := Tryz.func84.trans (congrArg some (by kernel_rfl))
  f286 := Tryz.func85.trans (congrArg some (by kernel_rfl))
  f316 := Tryz.func104.trans (congrArg some (by kernel_rfl))
  f317 := Tryz.func91.trans (congrArg some (by kernel_rfl))
  f318 := Tryz.func93.trans (congrArg some (by kernel_rfl))
  f319 := Tryz.func94.trans (congrArg some (by kernel_rfl))
  f320 := Tryz.func95.trans (congrArg some (by kernel_rfl))
  f337 := Tryz.func102.trans (congrArg some (by kernel_rfl))
  f338 := Tryz.func103.trans (congrArg some (by kernel_rfl))
  t0 := Tryz.underlying0
  a0 := Tryz.isAgg0
  z0 := Tryz.sizeOf0
  v0 := Tryz.zeroValue0
  t2 := Tryz.underlying2
  a2 := Tryz.isAgg2
  z2 := Tryz.sizeOf2
  v2 := Tryz.zeroValue2
  t3 := Tryz.underlying3
  a3 := Tryz.isAgg3
  z3 := Tryz.sizeOf3
  v3 := Tryz.zeroValue3
  t4 := Tryz.underlying4
  a4 := Tryz.isAgg4
  z4 := Tryz.sizeOf4
  v4 := Tryz.zeroValue4
  t5 := Tryz.underlying5
  a5 := Tryz.isAgg5
  z5 := Tryz.sizeOf5
  v5 := Tryz.zeroValue5
  t9 := Tryz.underlying9
  a9 := Tryz.isAgg9
  z9 := Tryz.sizeOf9
  v9 := Tryz.zeroValue9
  t20 := Tryz.underlying20
  a20 := Tryz.isAgg20
  z20 := Tryz.sizeOf20
  v20 := Tryz.zeroValue20
  t37 := Tryz.underlying64
  a37 := Tryz.isAgg64
  z37 := Tryz.sizeOf64
  v37 := Tryz.zeroValue64
  t46 := Tryz.underlying79
  a46 := Tryz.isAgg79
  z46 := Tryz.sizeOf79
  v46 := Tryz.zeroValue79
  t51 := Tryz.underlying119
  a51 := Tryz.isAgg119
  z51 := Tryz.sizeOf119
  v51 := Tryz.zeroValue119
  t53 := Tryz.underlying105
  a53 := Tryz.isAgg105
  z53 := Tryz.sizeOf105
  v53 := Tryz.zeroValue105
  t75 := Tryz.underlying69
  a75 := Tryz.isAgg69
  z75 := Tryz.sizeOf69
  v75 := Tryz.zeroValue69
  t127 := Tryz.underlying80
  a127 := Tryz.isAgg80
  z127 := Tryz.sizeOf80
  v127 := Tryz.zeroValue80
  t143 := Tryz.underlying141
  a143 := Tryz.isAgg141
  z143 := Tryz.sizeOf141
  v143 := Tryz.zeroValue141
  t145 := Tryz.underlying143
  a145 := Tryz.isAgg143
  z145 := Tryz.sizeOf143
  v145 := Tryz.zeroValue143
  t167 := Tryz.underlying129
  a167 := Tryz.isAgg129
  z167 := Tryz.sizeOf129
  v167 := Tryz.zeroValue129
  t168 := Tryz.underlying132
  a168 := Tryz.isAgg132
  z168 := Tryz.sizeOf132
  v168 := Tryz.zeroValue132
  t171 := Tryz.underlying110
  a171 := Tryz.isAgg110
  z171 := Tryz.sizeOf110
  v171 := Tryz.zeroValue110
  t173 := Tryz.underlying113
  a173 := Tryz.isAgg113
  z173 := Tryz.sizeOf113
  v173 := Tryz.zeroValue113
  t210 := Tryz.underlying137
  a210 := Tryz.isAgg137
  z210 := Tryz.sizeOf137
  v210 := Tryz.zeroValue137
  t212 := Tryz.underlying125
  a212 := Tryz.isAgg125
  z212 := Tryz.sizeOf125
  v212 := Tryz.zeroValue125
  t213 := Tryz.underlying126
  a213 := Tryz.isAgg126
  z213 := Tryz.sizeOf126
  t232 := Tryz.underlying139
  a232 := Tryz.isAgg139
  z232 := Tryz.sizeOf139
  v232 := Tryz.zeroValue139
  t233 := Tryz.underlying140
  a233 := Tryz.isAgg140
  z233 := Tryz.sizeOf140
  v233 := Tryz.zeroValue140
  g15 := by kernel_rfl
  g16 := by kernel_rfl
  g17 := by kernel_rfl
  g18 := by kernel_rfl
  g19 := by kernel_rfl
  t80 := Tryz.underlying58
  a80 := Tryz.isAgg58
  z80 := Tryz.sizeOf58
  v80 := Tryz.zeroValue58
  i0 := by kernel_rfl
  i2 := by kernel_rfl
  i3 := by kernel_rfl
  i4 := by kernel_rfl
  i5 := by kernel_rfl
  i9 := by kernel_rfl
  i20 := by kernel_rfl
  i37 := by kernel_rfl
  i46 := by kernel_rfl
  i51 := by kernel_rfl
  i53 := by kernel_rfl
  i75 := by kernel_rfl
  i80 := by kernel_rfl
  i127 := by kernel_rfl
  i143 := by kernel_rfl
  i145 := by kernel_rfl
  i167 := by kernel_rfl
  i168 := by kernel_rfl
  i171 := by kernel_rfl
  i173 := by kernel_rfl
  i210 := by kernel_rfl
  i212 := by kernel_rfl
  i232 := by kernel_rfl
  i233 := by kernel_rfl
  m15 := by kernel_rfl
  m16 := by kernel_rfl
  m17 := by kernel_rfl
  m18 := by kernel_rfl
  m19 := by kernel_rfl
  c0 := by kernel_rfl
  c2 := by kernel_rfl
  c3 := by kernel_rfl
  c4 := by kernel_rfl
  c5 := by kernel_rfl
  c9 := by kernel_rfl
  c20 := by kernel_rfl
  c37 := by kernel_rfl
  c46 := by kernel_rfl
  c51 := by kernel_rfl
  c53 := by kernel_rfl
  c75 := by kernel_rfl
  c80 := by kernel_rfl
  c127 := by kernel_rfl
  c143 := by kernel_rfl
  c145 := by kernel_rfl
  c167 := by kernel_rfl
  c168 := by kernel_rfl
  c171 := by kernel_rfl
  c173 := by kernel_rfl
  c210 := by kernel_rfl
  c212 := by kernel_rfl
  c213 := by kernel_rfl
  c232 := by kernel_rfl
  c233 := by kernel_rfl }
def Tryz.lays287_ren : Go.Shelf.Ren := ⟨fun | 287 => 88 | 321 => 96 | 322 => 97 | n => n, fun | 9 => 9 | 3 => 3 | 53 => 105 | 75 => 69 | 4 => 4 | 167 => 129 | 5 => 5 | 46 => 79 | 37 => 64 | 0 => 0 | 21 => 21 | 80 => 58 | n => n, fun | n => n⟩
theorem Tryz.lays287 : Go.Proofs.Lays.n287 Tryz.prog Tryz.lays287_ren := {
  mixed := by kernel_rfl
  f287 := Tryz.func88.trans (congrArg some (by kernel_rfl))
  f321 := Tryz.func96.trans (congrArg some (by kernel_rfl))
  f322 := Tryz.func97.trans (congrArg some (by kernel_rfl))
  t0 := Tryz.underlying0
  a0 := Tryz.isAgg0
  z0 := Tryz.sizeOf0
  v0 := Tryz.zeroValue0
  t3 := Tryz.underlying3
  a3 := Tryz.isAgg3
  z3 := Tryz.sizeOf3
  v3 := Tryz.zeroValue3
  t4 := Tryz.underlying4
  a4 := Tryz.isAgg4
  z4 := Tryz.sizeOf4
  v4 := Tryz.zeroValue4
  t5 := Tryz.underlying5
  a5 := Tryz.isAgg5
  z5 := Tryz.sizeOf5
  v5 := Tryz.zeroValue5
  t9 := Tryz.underlying9
  a9 := Tryz.isAgg9
  z9 := Tryz.sizeOf9
  v9 := Tryz.zeroValue9
  t21 := Tryz.underlying21
  a21 := Tryz.isAgg21
  z21 := Tryz.sizeOf21
  v21 := Tryz.zeroValue21
  t37 := Tryz.underlying64
  a37 := Tryz.isAgg64
  z37 := Tryz.sizeOf64
  v37 := Tryz.zeroValue64
  t46 := Tryz.underlying79
  a46 := Tryz.isAgg79
  z46 := Tryz.sizeOf79
  v46 := Tryz.zeroValue79
  t53 := Tryz.underlying105
  a53 := Tryz.isAgg105
  z53 := Tryz.sizeOf105
  v53 := Tryz.zeroValue105
  t75 := Tryz.underlying69
  a75 := Tryz.isAgg69
  z75 := Tryz.sizeOf69
  v75 := Tryz.zeroValue69
  t167 := Tryz.underlying129
  a167 := Tryz.isAgg129
  z167 := Tryz.sizeOf129
  v167 := Tryz.zeroValue129 }
open Go.RowKit in
/-- strconv.toError, at the inner package's ErrRange: 'rangeError(fn, s)' as_ an error: A *NumError IN A NEW BLOCK. (LAID: no walk: one application.) -/
theorem Tryz.strconv_toError_range (fn s : ByteArray) (base bits : Int) (ev : Value) (w : World) (hlim : s.size ≤ 281474976710656) (hv : w.cell? ⟨5, 0, none⟩ = some ev) (hev : ev = .nilIface ∨ ∃ te pe, ev = .iface te pe) :
    Calls Tryz.prog 89 #[.string fn, .string s, .int .i64 base, .int .i64 bits, .iface 129 (.int .i64 1)] w fun e w' => ∃ N, e = .returned (.iface 132 (.pointer (some ⟨N, 0, none⟩))) ∧ w.heap.size ≤ N ∧ w'.heap[N]? = some (.cells #[.string fn, .string s, ev] 137 (0, 0)) ∧ Below w.heap.size w w' := Any.strconv_toError_range Tryz.laysC245 fn s base bits ev w hlim hv hev
open Go.RowKit in
/-- internal/strconv.ParseUint(s, 10, 64), s NOT EMPTY: 'Lib.parseUint10 0' OF ITS BYTES: the number; or (0, ErrSyntax); or (the greatest uint64, ErrRange). The world behind the call: the one new row that '[]byte(s)' lays. (LAID: no walk: one application.) -/
theorem Tryz.internal_strconv_ParseUint_10_b64 (t : ByteArray) (hne : t.size ≠ 0) (hmax : t.size ≤ 9223372036854775806) (w : World) :
    Calls Tryz.prog 88 #[.string t, .int .i64 10, .int .i64 64] w fun e w' => e = .returned (Lib.uintTuple 129 (Lib.parseUint10 0 t.data.toList)) ∧ w' = Lib.bytesWorld w 5 t := Any.internal_strconv_ParseUint_10_b64 Tryz.lays287 t hne hmax w
def Tryz.lays145_ren : Go.Shelf.Ren := ⟨fun | 145 => 69 | 220 => 81 | 219 => 65 | 217 => 74 | 225 => 75 | 224 => 76 | 267 => 77 | 266 => 86 | 314 => 87 | n => n, fun | 9 => 9 | 4 => 4 | 59 => 100 | 3 => 3 | 5 => 5 | 46 => 79 | 146 => 120 | 51 => 119 | n => n, fun | 1 => 0 | n => n⟩
theorem Tryz.lays145 : Go.Proofs.Lays.n145 Tryz.prog Tryz.lays145_ren := {
  mixed := by kernel_rfl
  f145 := Tryz.func69.trans (congrArg some (by kernel_rfl))
  f217 := Tryz.func74.trans (congrArg some (by kernel_rfl))
  f219 := Tryz.func65.trans (congrArg some (by kernel_rfl))
  f220 := Tryz.func81.trans (congrArg some (by kernel_rfl))
  f224 := Tryz.func76.trans (congrArg some (by kernel_rfl))
  f225 := Tryz.func75.trans (congrArg some (by kernel_rfl))
  f266 := Tryz.func86.trans (congrArg some (by kernel_rfl))
  f267 := Tryz.func77.trans (congrArg some (by kernel_rfl))
  f314 := Tryz.func87.trans (congrArg some (by kernel_rfl))
  t3 := Tryz.underlying3
  a3 := Tryz.isAgg3
  z3 := Tryz.sizeOf3
  v3 := Tryz.zeroValue3
  t4 := Tryz.underlying4
  a4 := Tryz.isAgg4
  z4 := Tryz.sizeOf4
  v4 := Tryz.zeroValue4
  t5 := Tryz.underlying5
  a5 := Tryz.isAgg5
  z5 := Tryz.sizeOf5
  v5 := Tryz.zeroValue5
  t9 := Tryz.underlying9
  a9 := Tryz.isAgg9
  z9 := Tryz.sizeOf9
  v9 := Tryz.zeroValue9
  t46 := Tryz.underlying79
  a46 := Tryz.isAgg79
  z46 := Tryz.sizeOf79
  v46 := Tryz.zeroValue79
  t51 := Tryz.underlying119
  a51 := Tryz.isAgg119
  z51 := Tryz.sizeOf119
  v51 := Tryz.zeroValue119
  t59 := Tryz.underlying100
  a59 := Tryz.isAgg100
  z59 := Tryz.sizeOf100
  v59 := Tryz.zeroValue100
  t146 := Tryz.underlying120
  a146 := Tryz.isAgg120
  z146 := Tryz.sizeOf120
  v146 := Tryz.zeroValue120
  g1 := by kernel_rfl }
open Go.RowKit Go.Lib in
/-- strings.Cut: "Cut slices s around the first instance of sep, returning the text before and after sep. The found result reports whether sep appears in s. If sep does not appear in s, cut returns s, "", false.": IT RETURNS 'Lib.cut s sep'; the world is as_ it was but for the count of draws. (LAID: no walk: one application.) -/
theorem Tryz.strings_Cut (s sep : ByteArray) (m : Int) (w : World) (hs : s.size < 4294967281) (hm : w.cell? ⟨0, 0, none⟩ = some (.int .i64 m)) :
    Calls Tryz.prog 69 #[.string s, .string sep] w fun e w' => e = .returned (.tuple #[.string ⟨(Lib.cut s.data.toList sep.data.toList).1.toArray⟩, .string ⟨(Lib.cut s.data.toList sep.data.toList).2.1.toArray⟩, .bool (Lib.cut s.data.toList sep.data.toList).2.2]) ∧ ∃ n, w' = w.drewN n := Any.strings_Cut Tryz.lays145 s sep m w hs hm
def Tryz.laysM219_ren : Go.Shelf.Ren := ⟨fun | 219 => 65 | 217 => 74 | 225 => 75 | 224 => 76 | 267 => 77 | 266 => 86 | 314 => 87 | n => n, fun | 9 => 9 | 3 => 3 | 4 => 4 | 5 => 5 | 46 => 79 | 146 => 120 | 51 => 119 | n => n, fun | 1 => 0 | n => n⟩
theorem Tryz.laysM219 : Go.Proofs.LaysM.n219 Tryz.prog Tryz.laysM219_ren := {
  mixed := by kernel_rfl
  f217 := Tryz.func74.trans (congrArg some (by kernel_rfl))
  f219 := Tryz.func65.trans (congrArg some (by kernel_rfl))
  f224 := Tryz.func76.trans (congrArg some (by kernel_rfl))
  f225 := Tryz.func75.trans (congrArg some (by kernel_rfl))
  f266 := Tryz.func86.trans (congrArg some (by kernel_rfl))
  f267 := Tryz.func77.trans (congrArg some (by kernel_rfl))
  f314 := Tryz.func87.trans (congrArg some (by kernel_rfl))
  t3 := Tryz.underlying3
  a3 := Tryz.isAgg3
  z3 := Tryz.sizeOf3
  v3 := Tryz.zeroValue3
  t4 := Tryz.underlying4
  a4 := Tryz.isAgg4
  z4 := Tryz.sizeOf4
  v4 := Tryz.zeroValue4
  t5 := Tryz.underlying5
  a5 := Tryz.isAgg5
  z5 := Tryz.sizeOf5
  v5 := Tryz.zeroValue5
  t9 := Tryz.underlying9
  a9 := Tryz.isAgg9
  z9 := Tryz.sizeOf9
  v9 := Tryz.zeroValue9
  t46 := Tryz.underlying79
  a46 := Tryz.isAgg79
  z46 := Tryz.sizeOf79
  v46 := Tryz.zeroValue79
  t51 := Tryz.underlying119
  a51 := Tryz.isAgg119
  z51 := Tryz.sizeOf119
  v51 := Tryz.zeroValue119
  t146 := Tryz.underlying120
  a146 := Tryz.isAgg120
  z146 := Tryz.sizeOf120
  v146 := Tryz.zeroValue120
  g1 := by kernel_rfl
  i3 := by kernel_rfl
  i4 := by kernel_rfl
  i5 := by kernel_rfl
  i9 := by kernel_rfl
  i46 := by kernel_rfl
  i51 := by kernel_rfl
  i146 := by kernel_rfl
  m1 := by kernel_rfl
  s1_3 := fun w h => Go.Proofs.cell_of_shapedOpen_int (zero := #[.int .i64 0]) (t := 3) h (of_decide_eq_true (by kernel_rfl)) (by kernel_rfl) rfl (by kernel_rfl) (by kernel_rfl) Tryz.underlying3 }
def Tryz.lays146_ren : Go.Shelf.Ren := ⟨fun | 146 => 21 | 221 => 35 | 268 => 51 | 138 => 52 | 143 => 53 | 195 => 62 | 197 => 63 | 218 => 64 | 219 => 65 | 260 => 73 | 217 => 74 | 225 => 75 | 224 => 76 | 267 => 77 | 266 => 86 | 314 => 87 | n => n, fun | 9 => 9 | 31 => 39 | 3 => 3 | 4 => 4 | 0 => 0 | 105 => 96 | 21 => 21 | 5 => 5 | 46 => 79 | 119 => 115 | 139 => 118 | 138 => 117 | 146 => 120 | 51 => 119 | n => n, fun | 1 => 0 | 3 => 1 | 4 => 2 | n => n⟩
theorem Tryz.lays146 : Go.Proofs.Lays.n146 Tryz.prog Tryz.lays146_ren := {
  mixed := by kernel_rfl
  f138 := Tryz.func52.trans (congrArg some (by kernel_rfl))
  f143 := Tryz.func53.trans (congrArg some (by kernel_rfl))
  f146 := Tryz.func21.trans (congrArg some (by kernel_rfl))
  f195 := Tryz.func62.trans (congrArg some (by kernel_rfl))
  f197 := Tryz.func63.trans (congrArg some (by kernel_rfl))
  f217 := Tryz.func74.trans (congrArg some (by kernel_rfl))
  f218 := Tryz.func64.trans (congrArg some (by kernel_rfl))
  f219 := Tryz.func65.trans (congrArg some (by kernel_rfl))
  f221 := Tryz.func35.trans (congrArg some (by kernel_rfl))
  f224 := Tryz.func76.trans (congrArg some (by kernel_rfl))
  f225 := Tryz.func75.trans (congrArg some (by kernel_rfl))
  f260 := Tryz.func73.trans (congrArg some (by kernel_rfl))
  f266 := Tryz.func86.trans (congrArg some (by kernel_rfl))
  f267 := Tryz.func77.trans (congrArg some (by kernel_rfl))
  f268 := Tryz.func51.trans (congrArg some (by kernel_rfl))
  f314 := Tryz.func87.trans (congrArg some (by kernel_rfl))
  t0 := Tryz.underlying0
  a0 := Tryz.isAgg0
  z0 := Tryz.sizeOf0
  v0 := Tryz.zeroValue0
  t3 := Tryz.underlying3
  a3 := Tryz.isAgg3
  z3 := Tryz.sizeOf3
  v3 := Tryz.zeroValue3
  t4 := Tryz.underlying4
  a4 := Tryz.isAgg4
  z4 := Tryz.sizeOf4
  v4 := Tryz.zeroValue4
  t5 := Tryz.underlying5
  a5 := Tryz.isAgg5
  z5 := Tryz.sizeOf5
  v5 := Tryz.zeroValue5
  t9 := Tryz.underlying9
  a9 := Tryz.isAgg9
  z9 := Tryz.sizeOf9
  v9 := Tryz.zeroValue9
  t21 := Tryz.underlying21
  a21 := Tryz.isAgg21
  z21 := Tryz.sizeOf21
  v21 := Tryz.zeroValue21
  t31 := Tryz.underlying39
  a31 := Tryz.isAgg39
  z31 := Tryz.sizeOf39
  v31 := Tryz.zeroValue39
  t46 := Tryz.underlying79
  a46 := Tryz.isAgg79
  z46 := Tryz.sizeOf79
  v46 := Tryz.zeroValue79
  t51 := Tryz.underlying119
  a51 := Tryz.isAgg119
  z51 := Tryz.sizeOf119
  v51 := Tryz.zeroValue119
  t105 := Tryz.underlying96
  a105 := Tryz.isAgg96
  z105 := Tryz.sizeOf96
  v105 := Tryz.zeroValue96
  t119 := Tryz.underlying115
  a119 := Tryz.isAgg115
  z119 := Tryz.sizeOf115
  t138 := Tryz.underlying117
  a138 := Tryz.isAgg117
  z138 := Tryz.sizeOf117
  v138 := Tryz.zeroValue117
  t139 := Tryz.underlying118
  a139 := Tryz.isAgg118
  z139 := Tryz.sizeOf118
  v139 := Tryz.zeroValue118
  t146 := Tryz.underlying120
  a146 := Tryz.isAgg120
  z146 := Tryz.sizeOf120
  v146 := Tryz.zeroValue120
  g1 := by kernel_rfl
  g3 := by kernel_rfl
  g4 := by kernel_rfl }
open Go.RowKit Go.Lib in
/-- strings.Split. (LAID: no walk: one application.) -/
theorem Tryz.strings_Split (s sep : ByteArray) (m : Int) (w : World) (hs : s.size < 4294967281) (hm : w.cell? ⟨0, 0, none⟩ = some (.int .i64 m)) (h1 : 1 ≤ sep.size) :
    Calls Tryz.prog 21 #[.string s, .string sep] w fun e w' =>
      e = .returned (.slice (some ⟨w.heap.size, 0, none⟩) (Lib.countB s sep + 1) (Lib.countB s sep + 1)) ∧ w' = w.alloc (.cells ((Lib.splitB sep 0 (Lib.countB s sep) s).map Value.string).toArray 9) := Any.strings_Split Tryz.lays146 (by kernel_rfl) s sep m w hs hm h1
end Go.Proofs
set_option linter.unusedVariables false
namespace Go.Proofs.YtodmbjbfigifnaaGreatDoor.PAll
open Go.RowKit Go.Proofs.YtodmbjbfigifnaaGreatDoor.Glob Go.Proofs.YtodmbjbfigifnaaGreatDoorW.PrintWords
/-- What strings.Cut answers, of texts within the model's bound. -/
def strings_Cut.f (a0 a1 : ByteArray) : Option (ByteArray × ByteArray × Bool) :=
  if a0.size < 4294967281 then some (⟨(Lib.cut a0.data.toList a1.data.toList).1.toArray⟩, ⟨(Lib.cut a0.data.toList a1.data.toList).2.1.toArray⟩, (Lib.cut a0.data.toList a1.data.toList).2.2) else none
theorem strings_Cut.calls (a0 : ByteArray) (a1 : ByteArray) (r1 : ByteArray) (r2 : ByteArray) (r3 : Bool) (w : World) (hG : GlobOK w) (h : strings_Cut.f a0 a1 = some (r1, r2, r3)) :
    Calls Tryz.prog 69 #[.string a0, .string a1] w fun e w' => e = .returned (.tuple #[.string r1, .string r2, .bool r3]) ∧ Below w.heap.size w w' := by
  obtain ⟨_, m, hm⟩ := hG
  unfold strings_Cut.f at h
  by_cases hs : a0.size < 4294967281
  · rw [if_pos hs] at h
    simp only [Option.some.injEq, Prod.mk.injEq] at h
    obtain ⟨rfl, rfl, rfl⟩ := h
    refine (Tryz.strings_Cut a0 a1 m w hs hm).mono ?_
    rintro e w' ⟨rfl, n, rfl⟩
    exact ⟨rfl, pw_below_drewN (Below.refl _ _) n⟩
  · rw [if_neg hs] at h; cases h
/-- What strings.CutPrefix answers. -/
def strings_CutPrefix.f (a0 a1 : ByteArray) : Option (ByteArray × Bool) := some (⟨(Lib.trimPrefix a0.data.toList a1.data.toList).toArray⟩, Lib.hasPrefix a0.data.toList a1.data.toList)
theorem strings_CutPrefix.calls (a0 : ByteArray) (a1 : ByteArray) (r1 : ByteArray) (r2 : Bool) (w : World) (h : strings_CutPrefix.f a0 a1 = some (r1, r2)) :
    Calls Tryz.prog 67 #[.string a0, .string a1] w fun e w' => e = .returned (.tuple #[.string r1, .bool r2]) ∧ Below w.heap.size w w' := by
  unfold strings_CutPrefix.f at h
  simp only [Option.some.injEq, Prod.mk.injEq] at h
  obtain ⟨rfl, rfl⟩ := h
  refine (Tryz.strings_CutPrefix a0 a1 w).mono ?_
  rintro e w' ⟨rfl, rfl⟩
  exact ⟨rfl, Below.refl _ _⟩
end Go.Proofs.YtodmbjbfigifnaaGreatDoor.PAll
namespace Go.Proofs.YtodmbjbfigifnaaGreatDoor.PAll
open Go.RowKit Go.Proofs.YtodmbjbfigifnaaGreatDoorW.PrintWords Go.Proofs.YtodmbjbfigifnaaGreatDoorW.PrintLast Go.Proofs.YtodmbjbfigifnaaGreatDoorW.PrintMore
attribute [local go_sem] max2_int min2_int max_two min_two max_three min_three max_four min_four   -- for this text's walks alone
set_option linter.unusedVariables false
set_option linter.unusedSimpArgs false
def nums_nibble.j0 : Nat → Int → Bool → Option (Int × Bool)
  | 0, _, _ => none
  | k + 1, x0, x4 => if x4 = true then (some ((x0 - 48) % 256, true)) else (if 97 ≤ x0 then (if x0 ≤ 102 then (some ((((x0 - 97) % 256) + 10) % 256, true)) else (some (0, false))) else (some (0, false)))
def nums_nibble.f (k : Nat) (a0 : Int) : Option (Int × Bool) := if 48 ≤ a0 then (nums_nibble.j0 k a0 (decide (a0 ≤ 57))) else (nums_nibble.j0 k a0 false)
theorem nums_nibble.mono_l : ∀ k, (∀ y0 y1, LeO (nums_nibble.j0 k y0 y1) (nums_nibble.j0 (k + 1) y0 y1))
  | 0 => fun _ _ r h => by simp [nums_nibble.j0] at h
  | k + 1 => by
    have ih0 := nums_nibble.mono_l k
    · intro y0 y1
      unfold nums_nibble.j0
      repeat' first
      | (with_reducible exact ih0 _ _)
      | (with_reducible exact LeO.refl _)
      | (with_reducible exact LeO.none _)
      | (with_reducible refine LeO.ite ?_ ?_)
      | (with_reducible refine LeO.bind ?_ (fun _ => ?_))
      | exact ih0 _ _
      | exact LeO.none _
      | refine LeO.ite ?_ ?_
      | refine LeO.bind ?_ (fun _ => ?_)
theorem nums_nibble.mono : ∀ a0 k, LeO (nums_nibble.f k a0) (nums_nibble.f (k + 1) a0) := by
  intro a0 k
  have ih0 := nums_nibble.mono_l k
  unfold nums_nibble.f
  repeat' first
      | (with_reducible exact ih0 _ _)
      | (with_reducible exact LeO.refl _)
      | (with_reducible exact LeO.none _)
      | (with_reducible refine LeO.ite ?_ ?_)
      | (with_reducible refine LeO.bind ?_ (fun _ => ?_))
      | exact ih0 _ _
      | exact LeO.none _
      | refine LeO.ite ?_ ?_
      | refine LeO.bind ?_ (fun _ => ?_)
set_option maxHeartbeats 8000000 in
set_option maxRecDepth 100000 in
theorem nums_nibble.calls (k : Nat) (a0 : Int) (r1 : Int) (r2 : Bool) (w : World) (h : nums_nibble.f k a0 = some (r1, r2)) :
    Calls Tryz.prog 80 #[.int .u8 a0] w fun e w' => e = .returned (.tuple #[.int .u8 r1, .bool r2]) ∧ Drawn0 w w' := by
  have H : (if 48 ≤ a0 then (nums_nibble.j0 k a0 (decide (a0 ≤ 57))) else (nums_nibble.j0 k a0 false)) = some (r1, r2) := h
  clear h
  have HC2 := Aside0.mk H
  clear H
  go_enter Tryz.func80, Tryz.ntmps80
  go_upto_region 1 with (fail)
  go_cut [4] (fun v4 wc => ∃ (kq : Nat) (x4_1 : Bool), v4 = .bool x4_1 ∧ Aside0 (nums_nibble.j0 kq a0 x4_1 = some (r1, r2)) ∧ Aside0 (kq ≤ k) ∧ Drawn0 w wc)
  case first =>
    have H := HC2.out
    clear HC2
    by_cases c3 : 48 ≤ a0
    · rw [if_pos c3] at H
      have c3b0 : decide (48 ≤ a0) = true := decide_eq_true c3
      clear c3
      (first | rw [c3b0] | (simp only [i64_w, i32_w]; rw [c3b0]) | skip)
      have H' := Aside0.mk H
      clear H
      go_wp2
      go_meet
      case rel => exact ⟨_, (decide (a0 ≤ 57)), (by first | rfl | (simp; done) | (simp [*]; done) | (simp [*, Go.Proofs.YtodmbjbfigifnaaGreatDoor.Str.bne_nil]; done)), H', ⟨by first | omega | exact Nat.le_refl _⟩, by repeat (first | exact Drawn0.refl _ | apply Drawn0.step)⟩
    · rw [if_neg c3] at H
      have c3b0 : decide (48 ≤ a0) = false := decide_eq_false c3
      clear c3
      (first | rw [c3b0] | (simp only [i64_w, i32_w]; rw [c3b0]) | skip)
      have H' := Aside0.mk H
      clear H
      go_wp2
      go_meet
      case rel => exact ⟨_, (false), (by first | rfl | (simp; done) | (simp [*]; done) | (simp [*, Go.Proofs.YtodmbjbfigifnaaGreatDoor.Str.bne_nil]; done)), H', ⟨by first | omega | exact Nat.le_refl _⟩, by repeat (first | exact Drawn0.refl _ | apply Drawn0.step)⟩
  case rest =>
    clear HC2
    try clear p2
    try clear c3
    try clear c3b0
    obtain ⟨kq, x4_1, rfl, HA, HJ1, ⟨mc1, rfl⟩⟩ := hcut
    cases kq with
    | zero => exact absurd HA.out (by simp [nums_nibble.j0])
    | succ kj1 =>
      have H := HA.out
      clear HA
      simp only [nums_nibble.j0] at H
      by_cases c4 : x4_1 = true
      · subst c4
        have H1 : (some ((a0 - 48) % 256, true)) = some (r1, r2) := by rw [if_pos rfl] at H; exact H
        clear H
        have H := H1
        clear H1
        simp only [Option.some.injEq, Prod.mk.injEq] at H
        obtain ⟨rfl, rfl⟩ := H
        go_wp2
        go_ret2
        exact ⟨by first | rfl | (simp; done) | (simp [*]; done) | (simp [*, Go.Proofs.YtodmbjbfigifnaaGreatDoor.Str.bne_nil]; done), by repeat (first | exact Drawn0.refl _ | apply Drawn0.step)⟩
      · replace c4 := Bool.eq_false_iff.mpr c4
        subst c4
        have H1 : (if 97 ≤ a0 then (if a0 ≤ 102 then (some ((((a0 - 97) % 256) + 10) % 256, true)) else (some (0, false))) else (some (0, false))) = some (r1, r2) := by rw [if_neg (show ¬ (false = true) by decide)] at H; exact H
        clear H
        have H := H1
        clear H1
        by_cases c5 : 97 ≤ a0
        · rw [if_pos c5] at H
          have c5b0 : decide (97 ≤ a0) = true := decide_eq_true c5
          clear c5
          by_cases c6 : a0 ≤ 102
          · rw [if_pos c6] at H
            have c6b0 : decide (a0 ≤ 102) = true := decide_eq_true c6
            clear c6
            simp only [Option.some.injEq, Prod.mk.injEq] at H
            obtain ⟨rfl, rfl⟩ := H
            go_wp2
            go_ret2
            exact ⟨by first | rfl | (simp; done) | (simp [*]; done) | (simp [*, Go.Proofs.YtodmbjbfigifnaaGreatDoor.Str.bne_nil]; done), by repeat (first | exact Drawn0.refl _ | apply Drawn0.step)⟩
          · rw [if_neg c6] at H
            have c6b0 : decide (a0 ≤ 102) = false := decide_eq_false c6
            clear c6
            simp only [Option.some.injEq, Prod.mk.injEq] at H
            obtain ⟨rfl, rfl⟩ := H
            go_wp2
            go_ret2
            exact ⟨by first | rfl | (simp; done) | (simp [*]; done) | (simp [*, Go.Proofs.YtodmbjbfigifnaaGreatDoor.Str.bne_nil]; done), by repeat (first | exact Drawn0.refl _ | apply Drawn0.step)⟩
        · rw [if_neg c5] at H
          have c5b0 : decide (97 ≤ a0) = false := decide_eq_false c5
          clear c5
          simp only [Option.some.injEq, Prod.mk.injEq] at H
          obtain ⟨rfl, rfl⟩ := H
          go_wp2
          go_ret2
          exact ⟨by first | rfl | (simp; done) | (simp [*]; done) | (simp [*, Go.Proofs.YtodmbjbfigifnaaGreatDoor.Str.bne_nil]; done), by repeat (first | exact Drawn0.refl _ | apply Drawn0.step)⟩
end Go.Proofs.YtodmbjbfigifnaaGreatDoor.PAll
namespace Go.Proofs.YtodmbjbfigifnaaGreatDoor.PAll
open Go.RowKit Go.Proofs.YtodmbjbfigifnaaGreatDoorW.PrintWords Go.Proofs.YtodmbjbfigifnaaGreatDoorW.PrintLast Go.Proofs.YtodmbjbfigifnaaGreatDoorW.PrintMore
attribute [local go_sem] max2_int min2_int max_two min_two max_three min_three max_four min_four   -- for this text's walks alone
set_option linter.unusedVariables false
set_option linter.unusedSimpArgs false
def nums_Unhex.l0 : Nat → ByteArray → List Int → Option (ByteArray × Int)
  | 0, _, _ => none
  | k + 1, x0, x4 => if x0.toList = ([] : List UInt8) then (some (strOfNums x4, 0)) else (if 0 < (x0.size : Int) then ((nums_nibble.f k (bt x0 0)).bind fun bt105 => (if 1 < (x0.size : Int) then ((nums_nibble.f k (bt x0 1)).bind fun bt107 => (if bt105.2 = true then (if bt107.2 = true then (if x4.length < 140737488355328 then (if 2 ≤ (x0.size : Int) then (nums_Unhex.l0 k (x0.extract 2 x0.size) (x4 ++ [Go.bits .or .u8 ((bt105.1 * 16) % 256) bt107.1])) else (none)) else (none)) else (some ((⟨#[]⟩ : ByteArray), 23))) else (some ((⟨#[]⟩ : ByteArray), 23)))) else (none))) else (none))
def nums_Unhex.f (k : Nat) (a0 : ByteArray) : Option (ByteArray × Int) := if ((a0.size : Int) % 2) = 0 then (if 0 ≤ (wrap64 ((a0.size : Int) / 2)) then (if (wrap64 ((a0.size : Int) / 2) : Int).toNat ≤ 281474976710656 then (nums_Unhex.l0 k a0 (([] : List Int))) else (none)) else (none)) else (some ((⟨#[]⟩ : ByteArray), 23))
theorem nums_Unhex.mono_l : ∀ k, (∀ y0 y1, LeO (nums_Unhex.l0 k y0 y1) (nums_Unhex.l0 (k + 1) y0 y1))
  | 0 => fun _ _ r h => by simp [nums_Unhex.l0] at h
  | k + 1 => by
    have ih0 := nums_Unhex.mono_l k
    · intro y0 y1
      unfold nums_Unhex.l0
      repeat' first
      | (with_reducible exact ih0 _ _)
      | (with_reducible exact nums_nibble.mono _ _)
      | (with_reducible exact LeO.refl _)
      | (with_reducible exact LeO.none _)
      | (with_reducible refine LeO.ite ?_ ?_)
      | (with_reducible refine LeO.bind ?_ (fun _ => ?_))
      | exact ih0 _ _
      | exact nums_nibble.mono _ _
      | exact LeO.none _
      | refine LeO.ite ?_ ?_
      | refine LeO.bind ?_ (fun _ => ?_)
theorem nums_Unhex.mono : ∀ a0 k, LeO (nums_Unhex.f k a0) (nums_Unhex.f (k + 1) a0) := by
  intro a0 k
  have ih0 := nums_Unhex.mono_l k
  unfold nums_Unhex.f
  repeat' first
      | (with_reducible exact ih0 _ _)
      | (with_reducible exact nums_nibble.mono _ _)
      | (with_reducible exact LeO.refl _)
      | (with_reducible exact LeO.none _)
      | (with_reducible refine LeO.ite ?_ ?_)
      | (with_reducible refine LeO.bind ?_ (fun _ => ?_))
      | exact ih0 _ _
      | exact nums_nibble.mono _ _
      | exact LeO.none _
      | refine LeO.ite ?_ ?_
      | refine LeO.bind ?_ (fun _ => ?_)
set_option maxHeartbeats 8000000 in
set_option maxRecDepth 100000 in
theorem nums_Unhex.calls (k : Nat) (a0 : ByteArray) (r1 : ByteArray) (r2 : Int) (w : World) (h : nums_Unhex.f k a0 = some (r1, r2)) :
    Calls Tryz.prog 68 #[.string a0] w fun e w' => e = .returned (.tuple #[.string r1, .int .i64 r2]) ∧ Below w.heap.size w w' := by
  have HB := Aside0.mk (Below.refl w.heap.size w)
  have H : (if ((a0.size : Int) % 2) = 0 then (if 0 ≤ (wrap64 ((a0.size : Int) / 2)) then (if (wrap64 ((a0.size : Int) / 2) : Int).toNat ≤ 281474976710656 then (nums_Unhex.l0 k a0 (([] : List Int))) else (none)) else (none)) else (some ((⟨#[]⟩ : ByteArray), 23))) = some (r1, r2) := h
  clear h
  by_cases c2 : ((a0.size : Int) % 2) = 0
  · rw [if_pos c2] at H
    have c2b0 : (((a0.size : Int) % 2) == 0) = true := beq_iff_eq.mpr c2
    have c2b1 : (((a0.size : Int) % 2) != 0) = false := bne_eq_false_iff_eq.mpr c2
    clear c2
    obtain ⟨ji3, hji3⟩ : ∃ j_ : Int, (wrap64 ((a0.size : Int) / 2)) = j_ := ⟨_, rfl⟩
    replace H : (if 0 ≤ (ji3) then (if (ji3 : Int).toNat ≤ 281474976710656 then (nums_Unhex.l0 k a0 (([] : List Int))) else (none)) else (none)) = some (r1, r2) := by first | (rw [hji3] at H; exact H) | (simp only [hji3] at H ⊢; exact H)
    have hji3w : (IntKind.i64.wrap ((a0.size : Int) / 2)) = ji3 := (i64_w _).trans hji3
    by_cases c4 : 0 ≤ (ji3)
    · rw [if_pos c4] at H
      have c4b0 := eq_true c4
      have c4b1 : decide (0 ≤ (ji3)) = true := decide_eq_true c4
      clear c4
      by_cases c5 : (ji3 : Int).toNat ≤ 281474976710656
      · rw [if_pos c5] at H
        have c5b0 := eq_true c5
        have c5b1 : decide ((ji3 : Int).toNat ≤ 281474976710656) = true := decide_eq_true c5
        clear c5
        obtain ⟨y102, hy102⟩ : ∃ y_ : List Int, y_ = (([] : List Int)) := ⟨_, rfl⟩
        replace H : (nums_Unhex.l0 k a0 y102) = some (r1, r2) := by first | (rw [hy102]; with_reducible exact H) | (have H2_ := (Option.bind_some _ _).symm.trans H; rw [hy102]; with_reducible exact H2_) | (have H2_ := (Option.bind_some _ _).symm.trans H; with_reducible exact H2_) | with_reducible exact H | (rw [hy102]; exact H) | exact H
        have Ny102 := Aside0.mk hy102
        clear hy102
        have H' := Aside0.mk H
        clear H
        go_enter Tryz.func68, Tryz.ntmps68
        go_wp2_with (first | ((with_reducible refine gate_dst (N := 16) rfl ?_); refine Kd.R_makec (Kd.int .u8) _ 5 rfl (N := 16) rfl 64 _ _ rfl ji3 rfl rfl Tryz.underlying64 (.int .u8 0) 1 info5 rfl (by decide) (by omega) 0 (ok := fun _ => True) (okp := fun _ => True) rfl (fun _ hk => hk) trivial (of_decide_eq_true (by first | (with_reducible assumption) | assumption)) (Nat.le_trans (Nat.mul_le_mul_right _ (of_decide_eq_true (by first | (with_reducible assumption) | assumption) : ji3.toNat ≤ 281474976710656)) (by omega)) (Below.refl _ _) (Nat.le_refl _) ?_; intro v103 w6 ho7 hb hg_ hnew_; clear hg_ hnew_; (first | rw [← Ny102.out] at ho7 | (simp only [Int.reduceToNat] at ho7; rw [← Ny102.out] at ho7)); have n0_ := Aside0.mk (Kd.R_lower ho7 (below_size (by repeat (first | (with_reducible first | exact HB.out | apply below_alloc | apply pw_below_drewN | apply below_drew1) | exact HB.out)))); have n1_ := Aside0.mk (below_step (by repeat (first | (with_reducible first | exact HB.out | apply below_alloc | apply pw_below_drewN | apply below_drew1) | exact HB.out)) hb); clear HB; have HO104 := n0_; have HB := n1_; clear n0_ n1_; clear hb ho7))
        go_loopg [0, 4] k (fun kq v0 v4 w' => ∃ (x0_1 : ByteArray) (x4_1 : List Int), v0 = .string x0_1 ∧ Aside0 (nums_Unhex.l0 kq x0_1 x4_1 = some (r1, r2)) ∧ Aside0 (kq ≤ k) ∧ Aside0 (Kd.R (Kd.int .u8) 5 w' w.heap.size (fun _ => True) v4 x4_1) ∧ Aside0 (Below w.heap.size w w'))
        case atStart => exact ⟨(a0), (y102), (by first | rfl | (simp; done) | (simp [*]; done) | (simp [*, Go.Proofs.YtodmbjbfigifnaaGreatDoor.Str.bne_nil]; done)), H', ⟨Nat.le_refl _⟩, ⟨by (with_reducible repeat (first | apply Kd.R_alloc | apply Kd.R_drewN | apply Kd.R_drew)); exact HO104.out⟩, ⟨by repeat (first | (with_reducible first | exact HB.out | apply below_alloc | apply pw_below_drewN | apply below_drew1) | exact HB.out)⟩⟩
        case round =>
          clear H'
          try clear c2
          try clear c2b0
          try clear c2b1
          try clear p2
          try clear c4
          try clear c4b0
          try clear c4b1
          try clear c5
          try clear c5b0
          try clear c5b1
          try clear c6
          try clear p6
          obtain ⟨x0_1, x4_1, rfl, HA, HK1, HO_4, HB⟩ := hrel
          cases gk with
          | zero => exact absurd HA.out (by simp [nums_Unhex.l0])
          | succ k1 =>
            have H := HA.out
            clear HA
            simp only [nums_Unhex.l0] at H
            by_cases c8 : x0_1.toList = ([] : List UInt8)
            · rw [if_pos c8] at H
              have c8b0 : (x0_1.toList == ([] : List UInt8)) = true := beq_iff_eq.mpr c8
              (try (have c8b8 := c8b0; simp only [List.beq_nil_eq] at c8b8))
              have c8b1 : (x0_1.toList != ([] : List UInt8)) = false := bne_eq_false_iff_eq.mpr c8
              clear c8
              simp only [Option.some.injEq, Prod.mk.injEq] at H
              obtain ⟨rfl, rfl⟩ := H
              have hcv9 := own_string (P := Tryz.prog) Tryz.underlying64 Tryz.underlying5 Tryz.underlying9 (Kd.own_of_R HO_4.out)
              go_wp2
              go_ret2
              exact ⟨by first | rfl | (simp [errW_none, errW_some] <;> rfl) | (simp only [← hji3]; first | rfl | (simp [errW_none, errW_some] <;> rfl)) | (simp [*, errW_none, errW_some] <;> rfl), by repeat (first | (with_reducible first | exact HB.out | apply below_alloc | apply pw_below_drewN | apply below_drew1) | exact HB.out)⟩
            · rw [if_neg c8] at H
              have c8b0 : (x0_1.toList == ([] : List UInt8)) = false := beq_eq_false_iff_ne.mpr c8
              (try (have c8b8 := c8b0; simp only [List.beq_nil_eq] at c8b8))
              have c8b1 : (x0_1.toList != ([] : List UInt8)) = true := bne_iff_ne.mpr c8
              by_cases c10 : 0 < (x0_1.size : Int)
              · rw [if_pos c10] at H
                have c10b0 : decide (0 < (x0_1.size : Int)) = true := decide_eq_true c10
                have c10b1 : decide (0 < x0_1.size) = true := decide_eq_true (by omega)
                clear c10
                replace H := Option.bind_eq_some_iff.mp H
                obtain ⟨⟨t105, t106⟩, A120, H⟩ := H
                replace H : (if 1 < (x0_1.size : Int) then ((nums_nibble.f k1 (bt x0_1 1)).bind fun bt107 => (if t106 = true then (if bt107.2 = true then (if x4_1.length < 140737488355328 then (if 2 ≤ (x0_1.size : Int) then (nums_Unhex.l0 k1 (x0_1.extract 2 x0_1.size) (x4_1 ++ [Go.bits .or .u8 ((t105 * 16) % 256) bt107.1])) else (none)) else (none)) else (some ((⟨#[]⟩ : ByteArray), 23))) else (some ((⟨#[]⟩ : ByteArray), 23)))) else (none)) = some (r1, r2) := H
                have A12 := Aside0.mk A120
                clear A120
                by_cases c13 : 1 < (x0_1.size : Int)
                · rw [if_pos c13] at H
                  have c13b0 : decide (1 < (x0_1.size : Int)) = true := decide_eq_true c13
                  have c13b1 : decide (1 < x0_1.size) = true := decide_eq_true (by omega)
                  clear c13
                  replace H := Option.bind_eq_some_iff.mp H
                  obtain ⟨⟨t107, t108⟩, A150, H⟩ := H
                  replace H : (if t106 = true then (if t108 = true then (if x4_1.length < 140737488355328 then (if 2 ≤ (x0_1.size : Int) then (nums_Unhex.l0 k1 (x0_1.extract 2 x0_1.size) (x4_1 ++ [Go.bits .or .u8 ((t105 * 16) % 256) t107])) else (none)) else (none)) else (some ((⟨#[]⟩ : ByteArray), 23))) else (some ((⟨#[]⟩ : ByteArray), 23))) = some (r1, r2) := H
                  have A15 := Aside0.mk A150
                  clear A150
                  by_cases c16 : t106 = true
                  · subst c16
                    have H1 : (if t108 = true then (if x4_1.length < 140737488355328 then (if 2 ≤ (x0_1.size : Int) then (nums_Unhex.l0 k1 (x0_1.extract 2 x0_1.size) (x4_1 ++ [Go.bits .or .u8 ((t105 * 16) % 256) t107])) else (none)) else (none)) else (some ((⟨#[]⟩ : ByteArray), 23))) = some (r1, r2) := by rw [if_pos rfl] at H; exact H
                    clear H
                    have H := H1
                    clear H1
                    by_cases c17 : t108 = true
                    · subst c17
                      have H1 : (if x4_1.length < 140737488355328 then (if 2 ≤ (x0_1.size : Int) then (nums_Unhex.l0 k1 (x0_1.extract 2 x0_1.size) (x4_1 ++ [Go.bits .or .u8 ((t105 * 16) % 256) t107])) else (none)) else (none)) = some (r1, r2) := by rw [if_pos rfl] at H; exact H
                      clear H
                      have H := H1
                      clear H1
                      by_cases c18 : x4_1.length < 140737488355328
                      · rw [if_pos c18] at H
                        have LMc18 := Aside0.mk c18
                        clear c18
                        obtain ⟨y109, hy109⟩ : ∃ y_ : List Int, y_ = (x4_1 ++ [Go.bits .or .u8 ((t105 * 16) % 256) t107]) := ⟨_, rfl⟩
                        replace H : (if 2 ≤ (x0_1.size : Int) then (nums_Unhex.l0 k1 (x0_1.extract 2 x0_1.size) y109) else (none)) = some (r1, r2) := by first | (rw [hy109]; with_reducible exact H) | (have H2_ := (Option.bind_some _ _).symm.trans H; rw [hy109]; with_reducible exact H2_) | (have H2_ := (Option.bind_some _ _).symm.trans H; with_reducible exact H2_) | with_reducible exact H | (rw [hy109]; exact H) | exact H
                        have Ny109 := Aside0.mk hy109
                        clear hy109
                        by_cases c19 : 2 ≤ (x0_1.size : Int)
                        · rw [if_pos c19] at H
                          have c19b0 := eq_true c19
                          have c19b1 : decide (2 ≤ (x0_1.size : Int)) = true := decide_eq_true c19
                          clear c19
                          have H' := Aside0.mk H
                          clear H
                          have p11 : 0 ≤ (0 : Int) := (by omega)
                          have q11 : 0 < x0_1.size := (by have : (0 : Int) < (x0_1.size : Int) := of_decide_eq_true (by first | (with_reducible assumption) | assumption); omega)
                          have hx11 : ∀ h : 0 < x0_1.size, ((x0_1[0]'h).toNat : Int) = bt x0_1 0 := bt_at x0_1 0
                          clear p11
                          have qi11 : (0 < (x0_1.size : Int)) = True := eq_true (of_decide_eq_true (by first | (with_reducible assumption) | assumption))
                          replace q11 := eq_true q11
                          go_wp2_with (first | ((with_reducible refine gate_callee (f := 80) rfl ?_); refine goesL_ (some 24) rfl rfl Tryz.func80 (by kernel_rfl) rfl #[.int .u8 (bt x0_1 0)] rfl (by (try simp only [List.map_toArray, List.map_cons, List.map_nil]); first | done | rfl | (simp only [List.length_drop, List.length_take]; rfl)) ?_; (with_reducible refine (nums_nibble.calls k1 (bt x0_1 0) t105 true _ A12.out).mono ?_); rintro e w' ⟨rfl, ⟨nd, rfl⟩⟩; refine ⟨_, rfl, ?_⟩; have p14 : 0 ≤ (1 : Int) := (by omega); have q14 : 1 < x0_1.size := (by have : (1 : Int) < (x0_1.size : Int) := of_decide_eq_true (by first | (with_reducible assumption) | assumption); omega); have hx14 : ∀ h : 1 < x0_1.size, ((x0_1[1]'h).toNat : Int) = bt x0_1 1 := bt_at x0_1 1; clear p14; have qi14 : (1 < (x0_1.size : Int)) = True := eq_true (of_decide_eq_true (by first | (with_reducible assumption) | assumption)); replace q14 := eq_true q14) | ((with_reducible refine gate_callee (f := 80) rfl ?_); refine goesL_ (some 30) rfl rfl Tryz.func80 (by kernel_rfl) rfl #[.int .u8 (bt x0_1 1)] rfl (by (try simp only [List.map_toArray, List.map_cons, List.map_nil]); first | done | rfl | (simp only [List.length_drop, List.length_take]; rfl)) ?_; (with_reducible refine (nums_nibble.calls k1 (bt x0_1 1) t107 true _ A15.out).mono ?_); rintro e w' ⟨rfl, ⟨nd, rfl⟩⟩; refine ⟨_, rfl, ?_⟩) | ((with_reducible refine gate_builtin (b := .append) (xs := #[.tmp 39, .tmp 44]) rfl ?_); at_builtin; refine Kd.R_append (Kd.int .u8) (w0 := w) w.heap.size rfl (.tmp 39) (.tmp 44) 64 5 (.int .u8 0) 1 rfl Tryz.underlying64 info5 rfl (by decide) (by omega) u4 x4_1 (Go.bits .or .u8 ((t105 * 16) % 256) t107) [.int .u8 (Go.bits .or .u8 ((t105 * 16) % 256) t107)] (fun _ => True) (fun _ => False) rfl rfl ?aP (fun _ hk => hk.elim) ?aF ?aO ?aB ?aS ?aL ?_; (case aP => exact rfl); (case aB => exact (by repeat (first | (with_reducible first | exact HB.out | apply below_alloc | apply pw_below_drewN | apply below_drew1) | exact HB.out))); (case aF => exact (fun _ _ => trivial)); (case aO => exact (by (with_reducible repeat (first | apply Kd.R_alloc | apply Kd.R_drewN | apply Kd.R_drew)); exact HO_4.out)); (case aS => exact (below_size (by repeat (first | (with_reducible first | exact HB.out | apply below_alloc | apply pw_below_drewN | apply below_drew1) | exact HB.out)))); (case aL => have := LMc18.out; omega); intro v110 w20 ho hb hg hat; rw [← Ny109.out] at ho; have n0_ := Aside0.mk (hb); have n1_ := Aside0.mk (ho); clear HB; clear HO_4; have HB := n0_; have HO111 := n1_; clear n0_ n1_; clear ho hb hg hat))
                          go_roundg k1
                          case measure => have := HK1.out; omega
                          case rel => exact ⟨(x0_1.extract 2 x0_1.size), (y109), (by first | rfl | (simp; done) | (simp [*]; done) | (simp [*, Go.Proofs.YtodmbjbfigifnaaGreatDoor.Str.bne_nil]; done)), H', ⟨by have := HK1.out; omega⟩, ⟨by (with_reducible repeat (first | apply Kd.R_alloc | apply Kd.R_drewN | apply Kd.R_drew)); exact HO111.out⟩, ⟨by repeat (first | (with_reducible first | exact HB.out | apply below_alloc | apply pw_below_drewN | apply below_drew1) | exact HB.out)⟩⟩
                        · rw [if_neg c19] at H
                          exact absurd H (by simp)
                      · rw [if_neg c18] at H
                        exact absurd H (by simp)
                    · replace c17 := Bool.eq_false_iff.mpr c17
                      subst c17
                      have H1 : (some ((⟨#[]⟩ : ByteArray), 23)) = some (r1, r2) := by rw [if_neg (show ¬ (false = true) by decide)] at H; exact H
                      clear H
                      have H := H1
                      clear H1
                      simp only [Option.some.injEq, Prod.mk.injEq] at H
                      obtain ⟨rfl, rfl⟩ := H
                      have p11 : 0 ≤ (0 : Int) := (by omega)
                      have q11 : 0 < x0_1.size := (by have : (0 : Int) < (x0_1.size : Int) := of_decide_eq_true (by first | (with_reducible assumption) | assumption); omega)
                      have hx11 : ∀ h : 0 < x0_1.size, ((x0_1[0]'h).toNat : Int) = bt x0_1 0 := bt_at x0_1 0
                      clear p11
                      have qi11 : (0 < (x0_1.size : Int)) = True := eq_true (of_decide_eq_true (by first | (with_reducible assumption) | assumption))
                      replace q11 := eq_true q11
                      go_wp2_with (first | ((with_reducible refine gate_callee (f := 80) rfl ?_); refine goesL_ (some 24) rfl rfl Tryz.func80 (by kernel_rfl) rfl #[.int .u8 (bt x0_1 0)] rfl (by (try simp only [List.map_toArray, List.map_cons, List.map_nil]); first | done | rfl | (simp only [List.length_drop, List.length_take]; rfl)) ?_; (with_reducible refine (nums_nibble.calls k1 (bt x0_1 0) t105 true _ A12.out).mono ?_); rintro e w' ⟨rfl, ⟨nd, rfl⟩⟩; refine ⟨_, rfl, ?_⟩; have p14 : 0 ≤ (1 : Int) := (by omega); have q14 : 1 < x0_1.size := (by have : (1 : Int) < (x0_1.size : Int) := of_decide_eq_true (by first | (with_reducible assumption) | assumption); omega); have hx14 : ∀ h : 1 < x0_1.size, ((x0_1[1]'h).toNat : Int) = bt x0_1 1 := bt_at x0_1 1; clear p14; have qi14 : (1 < (x0_1.size : Int)) = True := eq_true (of_decide_eq_true (by first | (with_reducible assumption) | assumption)); replace q14 := eq_true q14) | ((with_reducible refine gate_callee (f := 80) rfl ?_); refine goesL_ (some 30) rfl rfl Tryz.func80 (by kernel_rfl) rfl #[.int .u8 (bt x0_1 1)] rfl (by (try simp only [List.map_toArray, List.map_cons, List.map_nil]); first | done | rfl | (simp only [List.length_drop, List.length_take]; rfl)) ?_; (with_reducible refine (nums_nibble.calls k1 (bt x0_1 1) t107 false _ A15.out).mono ?_); rintro e w' ⟨rfl, ⟨nd, rfl⟩⟩; refine ⟨_, rfl, ?_⟩))
                      go_ret2
                      exact ⟨by first | rfl | (simp [errW_none, errW_some] <;> rfl) | (simp only [← hji3]; first | rfl | (simp [errW_none, errW_some] <;> rfl)) | (simp [*, errW_none, errW_some] <;> rfl), by repeat (first | (with_reducible first | exact HB.out | apply below_alloc | apply pw_below_drewN | apply below_drew1) | exact HB.out)⟩
                  · replace c16 := Bool.eq_false_iff.mpr c16
                    subst c16
                    have H1 : (some ((⟨#[]⟩ : ByteArray), 23)) = some (r1, r2) := by rw [if_neg (show ¬ (false = true) by decide)] at H; exact H
                    clear H
                    have H := H1
                    clear H1
                    simp only [Option.some.injEq, Prod.mk.injEq] at H
                    obtain ⟨rfl, rfl⟩ := H
                    have p11 : 0 ≤ (0 : Int) := (by omega)
                    have q11 : 0 < x0_1.size := (by have : (0 : Int) < (x0_1.size : Int) := of_decide_eq_true (by first | (with_reducible assumption) | assumption); omega)
                    have hx11 : ∀ h : 0 < x0_1.size, ((x0_1[0]'h).toNat : Int) = bt x0_1 0 := bt_at x0_1 0
                    clear p11
                    have qi11 : (0 < (x0_1.size : Int)) = True := eq_true (of_decide_eq_true (by first | (with_reducible assumption) | assumption))
                    replace q11 := eq_true q11
                    go_wp2_with (first | ((with_reducible refine gate_callee (f := 80) rfl ?_); refine goesL_ (some 24) rfl rfl Tryz.func80 (by kernel_rfl) rfl #[.int .u8 (bt x0_1 0)] rfl (by (try simp only [List.map_toArray, List.map_cons, List.map_nil]); first | done | rfl | (simp only [List.length_drop, List.length_take]; rfl)) ?_; (with_reducible refine (nums_nibble.calls k1 (bt x0_1 0) t105 false _ A12.out).mono ?_); rintro e w' ⟨rfl, ⟨nd, rfl⟩⟩; refine ⟨_, rfl, ?_⟩; have p14 : 0 ≤ (1 : Int) := (by omega); have q14 : 1 < x0_1.size := (by have : (1 : Int) < (x0_1.size : Int) := of_decide_eq_true (by first | (with_reducible assumption) | assumption); omega); have hx14 : ∀ h : 1 < x0_1.size, ((x0_1[1]'h).toNat : Int) = bt x0_1 1 := bt_at x0_1 1; clear p14; have qi14 : (1 < (x0_1.size : Int)) = True := eq_true (of_decide_eq_true (by first | (with_reducible assumption) | assumption)); replace q14 := eq_true q14) | ((with_reducible refine gate_callee (f := 80) rfl ?_); refine goesL_ (some 30) rfl rfl Tryz.func80 (by kernel_rfl) rfl #[.int .u8 (bt x0_1 1)] rfl (by (try simp only [List.map_toArray, List.map_cons, List.map_nil]); first | done | rfl | (simp only [List.length_drop, List.length_take]; rfl)) ?_; (with_reducible refine (nums_nibble.calls k1 (bt x0_1 1) t107 t108 _ A15.out).mono ?_); rintro e w' ⟨rfl, ⟨nd, rfl⟩⟩; refine ⟨_, rfl, ?_⟩))
                    go_ret2
                    exact ⟨by first | rfl | (simp [errW_none, errW_some] <;> rfl) | (simp only [← hji3]; first | rfl | (simp [errW_none, errW_some] <;> rfl)) | (simp [*, errW_none, errW_some] <;> rfl), by repeat (first | (with_reducible first | exact HB.out | apply below_alloc | apply pw_below_drewN | apply below_drew1) | exact HB.out)⟩
                · rw [if_neg c13] at H
                  exact absurd H (by simp)
              · rw [if_neg c10] at H
                exact absurd H (by simp)
      · rw [if_neg c5] at H
        exact absurd H (by simp)
    · rw [if_neg c4] at H
      exact absurd H (by simp)
  · rw [if_neg c2] at H
    have c2b0 : (((a0.size : Int) % 2) == 0) = false := beq_eq_false_iff_ne.mpr c2
    have c2b1 : (((a0.size : Int) % 2) != 0) = true := bne_iff_ne.mpr c2
    simp only [Option.some.injEq, Prod.mk.injEq] at H
    obtain ⟨rfl, rfl⟩ := H
    go_enter Tryz.func68, Tryz.ntmps68
    go_wp2
    go_ret2
    exact ⟨by first | rfl | (simp [errW_none, errW_some] <;> rfl) | (simp [*, errW_none, errW_some] <;> rfl), by repeat (first | (with_reducible first | exact HB.out | apply below_alloc | apply pw_below_drewN | apply below_drew1) | exact HB.out)⟩
end Go.Proofs.YtodmbjbfigifnaaGreatDoor.PAll
namespace Go.Proofs.YtodmbjbfigifnaaGreatDoor.PAll
open Go.RowKit Go.Proofs.YtodmbjbfigifnaaGreatDoorW.PrintWords Go.Proofs.YtodmbjbfigifnaaGreatDoorW.PrintLast Go.Proofs.YtodmbjbfigifnaaGreatDoorW.PrintMore
attribute [local go_sem] max2_int min2_int max_two min_two max_three min_three max_four min_four   -- for this text's walks alone
set_option linter.unusedVariables false
set_option linter.unusedSimpArgs false
def span_Parse.j0 : Nat → ByteArray → ByteArray → Bool → ByteArray → ByteArray → Bool → Option (ByteArray × ByteArray × Bool × Int)
  | 0, _, _, _, _, _, _ => none
  | k + 1, x4, x5, x6, x117000, x117001, x117002 => (nums_Unhex.f k x4).bind fun bt117 => ((nums_Unhex.f k x5).bind fun bt119 => (if x6 = true then (if bt117.2 = 0 then (if bt119.2 = 0 then ((span_Check.f k bt117.1 bt119.1 x117002).bind fun t121 => (if t121 = 0 then (some (bt117.1, bt119.1, x117002, 0)) else (some ((⟨#[]⟩ : ByteArray), (⟨#[]⟩ : ByteArray), false, 23)))) else (some ((⟨#[]⟩ : ByteArray), (⟨#[]⟩ : ByteArray), false, 23))) else (some ((⟨#[]⟩ : ByteArray), (⟨#[]⟩ : ByteArray), false, 23))) else (some ((⟨#[]⟩ : ByteArray), (⟨#[]⟩ : ByteArray), false, 23))))
def span_Parse.f (k : Nat) (a0 : ByteArray) : Option (ByteArray × ByteArray × Bool × Int) := (strings_Cut.f a0 (⟨#[46, 46]⟩ : ByteArray)).bind fun bt113 => (if bt113.2.1.toList = ([42] : List UInt8) then (span_Parse.j0 k bt113.1 (⟨#[]⟩ : ByteArray) bt113.2.2 (⟨#[]⟩ : ByteArray) (⟨#[]⟩ : ByteArray) (bt113.2.1.toList == ([42] : List UInt8))) else (span_Parse.j0 k bt113.1 bt113.2.1 bt113.2.2 (⟨#[]⟩ : ByteArray) (⟨#[]⟩ : ByteArray) (bt113.2.1.toList == ([42] : List UInt8))))
theorem span_Parse.mono_l : ∀ k, (∀ y0 y1 y2 y3 y4 y5, LeO (span_Parse.j0 k y0 y1 y2 y3 y4 y5) (span_Parse.j0 (k + 1) y0 y1 y2 y3 y4 y5))
  | 0 => fun _ _ _ _ _ _ r h => by simp [span_Parse.j0] at h
  | k + 1 => by
    have ih0 := span_Parse.mono_l k
    · intro y0 y1 y2 y3 y4 y5
      unfold span_Parse.j0
      repeat' first
      | (with_reducible exact ih0 _ _ _ _ _ _)
      | (with_reducible exact nums_Unhex.mono _ _)
      | (with_reducible exact span_Check.mono _ _ _ _)
      | (with_reducible exact LeO.refl _)
      | (with_reducible exact LeO.none _)
      | (with_reducible refine LeO.ite ?_ ?_)
      | (with_reducible refine LeO.bind ?_ (fun _ => ?_))
      | exact ih0 _ _ _ _ _ _
      | exact nums_Unhex.mono _ _
      | exact span_Check.mono _ _ _ _
      | exact LeO.none _
      | refine LeO.ite ?_ ?_
      | refine LeO.bind ?_ (fun _ => ?_)
theorem span_Parse.mono : ∀ a0 k, LeO (span_Parse.f k a0) (span_Parse.f (k + 1) a0) := by
  intro a0 k
  have ih0 := span_Parse.mono_l k
  unfold span_Parse.f
  repeat' first
      | (with_reducible exact ih0 _ _ _ _ _ _)
      | (with_reducible exact nums_Unhex.mono _ _)
      | (with_reducible exact span_Check.mono _ _ _ _)
      | (with_reducible exact LeO.refl _)
      | (with_reducible exact LeO.none _)
      | (with_reducible refine LeO.ite ?_ ?_)
      | (with_reducible refine LeO.bind ?_ (fun _ => ?_))
      | exact ih0 _ _ _ _ _ _
      | exact nums_Unhex.mono _ _
      | exact span_Check.mono _ _ _ _
      | exact LeO.none _
      | refine LeO.ite ?_ ?_
      | refine LeO.bind ?_ (fun _ => ?_)
set_option maxHeartbeats 8000000 in
set_option maxRecDepth 100000 in
theorem span_Parse.calls (k : Nat) (a0 : ByteArray) (r1 : ByteArray) (r2 : ByteArray) (r3 : Bool) (r4 : Int) (w : World) (hG : Glob.GlobOK w) (h : span_Parse.f k a0 = some (r1, r2, r3, r4)) :
    Calls Tryz.prog 56 #[.string a0] w fun e w' => e = .returned (.tuple #[.agg #[.string r1, .string r2, .bool r3], .int .i64 r4]) ∧ Below w.heap.size w w' := by
  have HG := Aside0.mk hG
  clear hG
  have hu23 := Tryz.underlying23
  have HB := Aside0.mk (Below.refl w.heap.size w)
  have H : ((strings_Cut.f a0 (⟨#[46, 46]⟩ : ByteArray)).bind fun bt113 => (if bt113.2.1.toList = ([42] : List UInt8) then (span_Parse.j0 k bt113.1 (⟨#[]⟩ : ByteArray) bt113.2.2 (⟨#[]⟩ : ByteArray) (⟨#[]⟩ : ByteArray) (bt113.2.1.toList == ([42] : List UInt8))) else (span_Parse.j0 k bt113.1 bt113.2.1 bt113.2.2 (⟨#[]⟩ : ByteArray) (⟨#[]⟩ : ByteArray) (bt113.2.1.toList == ([42] : List UInt8))))) = some (r1, r2, r3, r4) := h
  clear h
  replace H := Option.bind_eq_some_iff.mp H
  obtain ⟨⟨t113, t114, t115⟩, A20, H⟩ := H
  replace H : (if t114.toList = ([42] : List UInt8) then (span_Parse.j0 k t113 (⟨#[]⟩ : ByteArray) t115 (⟨#[]⟩ : ByteArray) (⟨#[]⟩ : ByteArray) (t114.toList == ([42] : List UInt8))) else (span_Parse.j0 k t113 t114 t115 (⟨#[]⟩ : ByteArray) (⟨#[]⟩ : ByteArray) (t114.toList == ([42] : List UInt8)))) = some (r1, r2, r3, r4) := H
  have A2 := Aside0.mk A20
  clear A20
  have HC3 := Aside0.mk H
  clear H
  go_enter Tryz.func56, Tryz.ntmps56
  go_upto_if 20 with (first | ((with_reducible refine gate_dst (N := 2) rfl ?_); refine box_event ?hg (N := 2) ?hd (cs := #[.string (⟨#[]⟩ : ByteArray), .string (⟨#[]⟩ : ByteArray), .bool false]) (t := 23) ?hr ?_; (case hd => rfl); (case hg => rfl); (case hr => first | (go_simp; done) | (go_simp; rfl)); intro gb112 hg w4 hbox hb; have n0_ := Aside0.mk (below_step (by repeat (first | (with_reducible first | exact HB.out | apply below_alloc | apply pw_below_drewN | apply below_drew1) | exact HB.out)) hb); have n1_ := Aside0.mk (hbox); have n2_ := Aside0.mk ((by rw [hg]; exact (below_size (by repeat (first | (with_reducible first | exact HB.out | apply below_alloc | apply pw_below_drewN | apply below_drew1) | exact HB.out))) : w.heap.size ≤ gb112)); have n3_ := Aside0.mk ((by rw [hg]; exact (below_size (by repeat (first | (with_reducible first | exact HB.out | apply below_alloc | apply pw_below_drewN | apply below_drew1) | exact HB.out))) : w.heap.size ≤ gb112)); clear HB; have HB := n0_; have BK112 := n1_; have GW112 := n2_; have GE112 := n3_; clear n0_ n1_ n2_ n3_; clear hb hbox hg) | ((with_reducible refine gate_callee (f := 69) rfl ?_); refine goesL_ (some 12) rfl rfl Tryz.func69 (by kernel_rfl) rfl #[.string a0, .string (⟨#[46, 46]⟩ : ByteArray)] rfl (by (try simp only [List.map_toArray, List.map_cons, List.map_nil]); first | done | rfl | (simp only [List.length_drop, List.length_take]; rfl)) ?_; (with_reducible refine (strings_Cut.calls a0 (⟨#[46, 46]⟩ : ByteArray) t113 t114 t115 _ ?sideG A2.out).mono ?_); (case sideG => exact Glob.GlobOK.below HG.out (by repeat (first | (with_reducible first | exact HB.out | apply below_alloc | apply pw_below_drewN | apply below_drew1 | refine below_set ?_ GE112.out | refine below_set ?_ GE116.out) | exact HB.out))); rintro e w5 ⟨rfl, hb⟩; refine ⟨_, rfl, ?_⟩; have n0_ := Aside0.mk (blk_below (g := gb112) (o := .cells #[.string (⟨#[]⟩ : ByteArray), .string (⟨#[]⟩ : ByteArray), .bool false] 23 (0, 0)) (by (with_reducible repeat (first | refine blk_drewN ?_ _ | refine blk_drew ?_ | refine blk_alloc ?_ _)); exact BK112.out) hb); have n1_ := Aside0.mk (below_step (by repeat (first | (with_reducible first | exact HB.out | apply below_alloc | apply pw_below_drewN | apply below_drew1 | refine below_set ?_ GE112.out) | exact HB.out)) hb); clear BK112; clear HB; have BK112 := n0_; have HB := n1_; clear n0_ n1_; (try clear hb); (try clear hb2); (try clear hk); (try clear hi)) | ((with_reducible refine gate_dst (N := 7) rfl ?_); refine box_event ?hg (N := 7) ?hd (cs := #[.string (⟨#[]⟩ : ByteArray), .string (⟨#[]⟩ : ByteArray), .bool false]) (t := 23) ?hr ?_; (case hd => rfl); (case hg => rfl); (case hr => first | (go_simp; done) | (go_simp; rfl)); intro gb116 hg w6 hbox hb; have n0_ := Aside0.mk (blk_below (g := gb112) (o := .cells #[.string (⟨#[]⟩ : ByteArray), .string (⟨#[]⟩ : ByteArray), .bool false] 23 (0, 0)) (by (with_reducible repeat (first | refine blk_drewN ?_ _ | refine blk_drew ?_ | refine blk_alloc ?_ _)); exact BK112.out) hb); have n1_ := Aside0.mk (below_step (by repeat (first | (with_reducible first | exact HB.out | apply below_alloc | apply pw_below_drewN | apply below_drew1 | refine below_set ?_ GE112.out) | exact HB.out)) hb); have n2_ := Aside0.mk (hbox); have n3_ := Aside0.mk ((by rw [hg]; exact (below_size (by repeat (first | (with_reducible first | exact HB.out | apply below_alloc | apply pw_below_drewN | apply below_drew1 | refine below_set ?_ GE112.out) | exact HB.out))) : w.heap.size ≤ gb116)); have n4_ := Aside0.mk ((by rw [hg]; exact (below_size (by repeat (first | (with_reducible first | exact HB.out | apply below_alloc | apply pw_below_drewN | apply below_drew1 | refine below_set ?_ GE112.out) | exact HB.out))) : w.heap.size ≤ gb116)); have n5_ := Aside0.mk ((by rw [hg]; exact Nat.ne_of_lt (blk_lt (g := gb112) (o := .cells #[.string (⟨#[]⟩ : ByteArray), .string (⟨#[]⟩ : ByteArray), .bool false] 23 (0, 0)) (by (with_reducible repeat (first | refine blk_drewN ?_ _ | refine blk_drew ?_ | refine blk_alloc ?_ _)); exact BK112.out)) : gb112 ≠ gb116)); have n6_ := Aside0.mk ((by rw [hg]; exact Nat.ne_of_gt (blk_lt (g := gb112) (o := .cells #[.string (⟨#[]⟩ : ByteArray), .string (⟨#[]⟩ : ByteArray), .bool false] 23 (0, 0)) (by (with_reducible repeat (first | refine blk_drewN ?_ _ | refine blk_drew ?_ | refine blk_alloc ?_ _)); exact BK112.out)) : gb116 ≠ gb112)); clear BK112; clear HB; have BK112 := n0_; have HB := n1_; have BK116 := n2_; have GW116 := n3_; have GE116 := n4_; have NB112_116 := n5_; have NB116_112 := n6_; clear n0_ n1_ n2_ n3_ n4_ n5_ n6_; clear hb hbox hg; have hnb7 := NB116_112.out; have hnc7 := NB112_116.out; have hcz8_0 : w6.cell? ⟨gb116, 0, none⟩ = some (.string (⟨#[]⟩ : ByteArray)) := (blk_cell BK116.out 0).trans rfl; have hcz8_1 : w6.cell? ⟨gb116, 1, none⟩ = some (.string (⟨#[]⟩ : ByteArray)) := (blk_cell BK116.out 1).trans rfl; have hcz8_2 : w6.cell? ⟨gb116, 2, none⟩ = some (.bool false) := (blk_cell BK116.out 2).trans rfl; have hfz8_0 := blk_frozen BK116.out 0; have hfz8_1 := blk_frozen BK116.out 1; have hfz8_2 := blk_frozen BK116.out 2))
  (try simp only [Act.put, List.setIfInBounds_toArray, List.set_cons_zero, List.set_cons_succ])
  go_cut [5] (fun v5 wc => ∃ (kq : Nat) (x5_2 : ByteArray), v5 = .string x5_2 ∧ Aside0 (span_Parse.j0 kq t113 x5_2 t115 (⟨#[]⟩ : ByteArray) (⟨#[]⟩ : ByteArray) (t114.toList == ([42] : List UInt8)) = some (r1, r2, r3, r4)) ∧ Aside0 (kq ≤ k) ∧ Aside0 (wc.heap[gb112]? = some (.cells #[.string (⟨#[]⟩ : ByteArray), .string (⟨#[]⟩ : ByteArray), .bool false] 23 (0, 0))) ∧ Aside0 (wc.heap[gb116]? = some (.cells #[.string (⟨#[]⟩ : ByteArray), .string (⟨#[]⟩ : ByteArray), .bool (t114.toList == ([42] : List UInt8))] 23 (0, 0))) ∧ Aside0 (Below w.heap.size w wc))
  case first =>
    have H := HC3.out
    clear HC3
    by_cases c9 : t114.toList = ([42] : List UInt8)
    · rw [if_pos c9] at H
      have c9b0 : (t114.toList == ([42] : List UInt8)) = true := beq_iff_eq.mpr c9
      have c9b1 : (t114.toList != ([42] : List UInt8)) = false := bne_eq_false_iff_eq.mpr c9
      clear c9
      (first | rw [c9b0] | (simp only [i64_w, i32_w]; rw [c9b0]) | skip)
      have H' := Aside0.mk H
      clear H
      go_wp2
      go_meet
      case rel => exact ⟨_, ((⟨#[]⟩ : ByteArray)), (by first | rfl | (simp; done) | (simp [*]; done) | (simp [*, Go.Proofs.YtodmbjbfigifnaaGreatDoor.Str.bne_nil]; done)), H', ⟨by first | omega | exact Nat.le_refl _⟩, ⟨by (with_reducible repeat (first | refine blk_drewN ?_ _ | refine blk_drew ?_ | refine blk_alloc ?_ _)); refine blk_far ?_ NB112_116.out _; (with_reducible repeat (first | refine blk_drewN ?_ _ | refine blk_drew ?_ | refine blk_alloc ?_ _)); refine blk_far ?_ NB112_116.out _; (with_reducible repeat (first | refine blk_drewN ?_ _ | refine blk_drew ?_ | refine blk_alloc ?_ _)); refine blk_far ?_ NB112_116.out _; (with_reducible repeat (first | refine blk_drewN ?_ _ | refine blk_drew ?_ | refine blk_alloc ?_ _)); exact BK112.out⟩, ⟨by (with_reducible repeat (first | refine blk_drewN ?_ _ | refine blk_drew ?_ | refine blk_alloc ?_ _)); refine blk_put (cs := #[.string (⟨#[]⟩ : ByteArray), .string (⟨#[]⟩ : ByteArray), .bool false]) ?_ 2 _ (by first | rfl | simp [*]); (with_reducible repeat (first | refine blk_drewN ?_ _ | refine blk_drew ?_ | refine blk_alloc ?_ _)); refine blk_put (cs := #[.string (⟨#[]⟩ : ByteArray), .string (⟨#[]⟩ : ByteArray), .bool false]) ?_ 1 _ (by first | rfl | simp [*]); (with_reducible repeat (first | refine blk_drewN ?_ _ | refine blk_drew ?_ | refine blk_alloc ?_ _)); refine blk_put (cs := #[.string (⟨#[]⟩ : ByteArray), .string (⟨#[]⟩ : ByteArray), .bool false]) ?_ 0 _ (by first | rfl | simp [*]); (with_reducible repeat (first | refine blk_drewN ?_ _ | refine blk_drew ?_ | refine blk_alloc ?_ _)); exact BK116.out⟩, ⟨by repeat (first | (with_reducible first | exact HB.out | apply below_alloc | apply pw_below_drewN | apply below_drew1 | refine below_set ?_ GE112.out | refine below_set ?_ GE116.out) | exact HB.out)⟩⟩
    · rw [if_neg c9] at H
      have c9b0 : (t114.toList == ([42] : List UInt8)) = false := beq_eq_false_iff_ne.mpr c9
      have c9b1 : (t114.toList != ([42] : List UInt8)) = true := bne_iff_ne.mpr c9
      (first | rw [c9b0] | (simp only [i64_w, i32_w]; rw [c9b0]) | skip)
      have H' := Aside0.mk H
      clear H
      go_wp2
      go_meet
      case rel => exact ⟨_, (t114), (by first | rfl | (simp; done) | (simp [*]; done) | (simp [*, Go.Proofs.YtodmbjbfigifnaaGreatDoor.Str.bne_nil]; done)), H', ⟨by first | omega | exact Nat.le_refl _⟩, ⟨by (with_reducible repeat (first | refine blk_drewN ?_ _ | refine blk_drew ?_ | refine blk_alloc ?_ _)); refine blk_far ?_ NB112_116.out _; (with_reducible repeat (first | refine blk_drewN ?_ _ | refine blk_drew ?_ | refine blk_alloc ?_ _)); refine blk_far ?_ NB112_116.out _; (with_reducible repeat (first | refine blk_drewN ?_ _ | refine blk_drew ?_ | refine blk_alloc ?_ _)); refine blk_far ?_ NB112_116.out _; (with_reducible repeat (first | refine blk_drewN ?_ _ | refine blk_drew ?_ | refine blk_alloc ?_ _)); exact BK112.out⟩, ⟨by (with_reducible repeat (first | refine blk_drewN ?_ _ | refine blk_drew ?_ | refine blk_alloc ?_ _)); refine blk_put (cs := #[.string (⟨#[]⟩ : ByteArray), .string (⟨#[]⟩ : ByteArray), .bool false]) ?_ 2 _ (by first | rfl | simp [*]); (with_reducible repeat (first | refine blk_drewN ?_ _ | refine blk_drew ?_ | refine blk_alloc ?_ _)); refine blk_put (cs := #[.string (⟨#[]⟩ : ByteArray), .string (⟨#[]⟩ : ByteArray), .bool false]) ?_ 1 _ (by first | rfl | simp [*]); (with_reducible repeat (first | refine blk_drewN ?_ _ | refine blk_drew ?_ | refine blk_alloc ?_ _)); refine blk_put (cs := #[.string (⟨#[]⟩ : ByteArray), .string (⟨#[]⟩ : ByteArray), .bool false]) ?_ 0 _ (by first | rfl | simp [*]); (with_reducible repeat (first | refine blk_drewN ?_ _ | refine blk_drew ?_ | refine blk_alloc ?_ _)); exact BK116.out⟩, ⟨by repeat (first | (with_reducible first | exact HB.out | apply below_alloc | apply pw_below_drewN | apply below_drew1 | refine below_set ?_ GE112.out | refine below_set ?_ GE116.out) | exact HB.out)⟩⟩
  case rest =>
    clear HC3
    try clear p2
    try clear c5
    try clear c6
    try clear c7
    try clear c9
    try clear c9b0
    try clear c9b1
    try clear hcz8_0
    try clear hcz8_1
    try clear hcz8_2
    try clear hfz8_0
    try clear hfz8_1
    try clear hfz8_2
    obtain ⟨kq, x5_2, rfl, HA, HJ2, BK112, BK116, HB⟩ := hcut
    cases kq with
    | zero => exact absurd HA.out (by simp [span_Parse.j0])
    | succ kj2 =>
      have H := HA.out
      clear HA
      simp only [span_Parse.j0] at H
      replace H := Option.bind_eq_some_iff.mp H
      obtain ⟨⟨t117, t118⟩, A100, H⟩ := H
      replace H : ((nums_Unhex.f kj2 x5_2).bind fun bt119 => (if t115 = true then (if t118 = 0 then (if bt119.2 = 0 then ((span_Check.f kj2 t117 bt119.1 (t114.toList == ([42] : List UInt8))).bind fun t121 => (if t121 = 0 then (some (t117, bt119.1, (t114.toList == ([42] : List UInt8)), 0)) else (some ((⟨#[]⟩ : ByteArray), (⟨#[]⟩ : ByteArray), false, 23)))) else (some ((⟨#[]⟩ : ByteArray), (⟨#[]⟩ : ByteArray), false, 23))) else (some ((⟨#[]⟩ : ByteArray), (⟨#[]⟩ : ByteArray), false, 23))) else (some ((⟨#[]⟩ : ByteArray), (⟨#[]⟩ : ByteArray), false, 23)))) = some (r1, r2, r3, r4) := H
      have A10 := Aside0.mk A100
      clear A100
      replace H := Option.bind_eq_some_iff.mp H
      obtain ⟨⟨t119, t120⟩, A110, H⟩ := H
      replace H : (if t115 = true then (if t118 = 0 then (if t120 = 0 then ((span_Check.f kj2 t117 t119 (t114.toList == ([42] : List UInt8))).bind fun t121 => (if t121 = 0 then (some (t117, t119, (t114.toList == ([42] : List UInt8)), 0)) else (some ((⟨#[]⟩ : ByteArray), (⟨#[]⟩ : ByteArray), false, 23)))) else (some ((⟨#[]⟩ : ByteArray), (⟨#[]⟩ : ByteArray), false, 23))) else (some ((⟨#[]⟩ : ByteArray), (⟨#[]⟩ : ByteArray), false, 23))) else (some ((⟨#[]⟩ : ByteArray), (⟨#[]⟩ : ByteArray), false, 23))) = some (r1, r2, r3, r4) := H
      have A11 := Aside0.mk A110
      clear A110
      by_cases c12 : t115 = true
      · subst c12
        have H1 : (if t118 = 0 then (if t120 = 0 then ((span_Check.f kj2 t117 t119 (t114.toList == ([42] : List UInt8))).bind fun t121 => (if t121 = 0 then (some (t117, t119, (t114.toList == ([42] : List UInt8)), 0)) else (some ((⟨#[]⟩ : ByteArray), (⟨#[]⟩ : ByteArray), false, 23)))) else (some ((⟨#[]⟩ : ByteArray), (⟨#[]⟩ : ByteArray), false, 23))) else (some ((⟨#[]⟩ : ByteArray), (⟨#[]⟩ : ByteArray), false, 23))) = some (r1, r2, r3, r4) := by rw [if_pos rfl] at H; exact H
        clear H
        have H := H1
        clear H1
        by_cases c13 : t118 = 0
        · rw [if_pos c13] at H
          have c13b0 : (t118 == 0) = true := beq_iff_eq.mpr c13
          have c13b1 : (t118 != 0) = false := bne_eq_false_iff_eq.mpr c13
          clear c13
          by_cases c14 : t120 = 0
          · rw [if_pos c14] at H
            have c14b0 : (t120 == 0) = true := beq_iff_eq.mpr c14
            have c14b1 : (t120 != 0) = false := bne_eq_false_iff_eq.mpr c14
            clear c14
            replace H := Option.bind_eq_some_iff.mp H
            obtain ⟨t121, A150, H⟩ := H
            replace H : (if t121 = 0 then (some (t117, t119, (t114.toList == ([42] : List UInt8)), 0)) else (some ((⟨#[]⟩ : ByteArray), (⟨#[]⟩ : ByteArray), false, 23))) = some (r1, r2, r3, r4) := H
            have A15 := Aside0.mk A150
            clear A150
            by_cases c16 : t121 = 0
            · rw [if_pos c16] at H
              have c16b0 : (t121 == 0) = true := beq_iff_eq.mpr c16
              have c16b1 : (t121 != 0) = false := bne_eq_false_iff_eq.mpr c16
              clear c16
              simp only [Option.some.injEq, Prod.mk.injEq] at H
              obtain ⟨rfl, rfl, rfl, rfl⟩ := H
              go_wp2_with (first | ((with_reducible refine gate_callee (f := 68) rfl ?_); refine goesL_ (some 23) rfl rfl Tryz.func68 (by kernel_rfl) rfl #[.string t113] rfl (by (try simp only [List.map_toArray, List.map_cons, List.map_nil]); first | done | rfl | (simp only [List.length_drop, List.length_take]; rfl)) ?_; (with_reducible refine (nums_Unhex.calls kj2 t113 t117 t118 _ A10.out).mono ?_); rintro e w17 ⟨rfl, hb⟩; refine ⟨_, rfl, ?_⟩; have n0_ := Aside0.mk (blk_below (g := gb112) (o := .cells #[.string (⟨#[]⟩ : ByteArray), .string (⟨#[]⟩ : ByteArray), .bool false] 23 (0, 0)) (by (with_reducible repeat (first | refine blk_drewN ?_ _ | refine blk_drew ?_ | refine blk_alloc ?_ _)); exact BK112.out) hb); have n1_ := Aside0.mk (blk_below (g := gb116) (o := .cells #[.string (⟨#[]⟩ : ByteArray), .string (⟨#[]⟩ : ByteArray), .bool (t114.toList == ([42] : List UInt8))] 23 (0, 0)) (by (with_reducible repeat (first | refine blk_drewN ?_ _ | refine blk_drew ?_ | refine blk_alloc ?_ _)); exact BK116.out) hb); have n2_ := Aside0.mk (below_step (by repeat (first | (with_reducible first | exact HB.out | apply below_alloc | apply pw_below_drewN | apply below_drew1 | refine below_set ?_ GE112.out | refine below_set ?_ GE116.out) | exact HB.out)) hb); clear BK112; clear BK116; clear HB; have BK112 := n0_; have BK116 := n1_; have HB := n2_; clear n0_ n1_ n2_; (try clear hb); (try clear hb2); (try clear hk); (try clear hi); have hnb18 := NB116_112.out; have hnc18 := NB112_116.out; have hcz19_0 : w17.cell? ⟨gb116, 0, none⟩ = some (.string (⟨#[]⟩ : ByteArray)) := (blk_cell BK116.out 0).trans rfl; have hcz19_1 : w17.cell? ⟨gb116, 1, none⟩ = some (.string (⟨#[]⟩ : ByteArray)) := (blk_cell BK116.out 1).trans rfl; have hcz19_2 : w17.cell? ⟨gb116, 2, none⟩ = some (.bool (t114.toList == ([42] : List UInt8))) := (blk_cell BK116.out 2).trans rfl; have hfz19_0 := blk_frozen BK116.out 0; have hfz19_1 := blk_frozen BK116.out 1; have hfz19_2 := blk_frozen BK116.out 2) | ((with_reducible refine gate_callee (f := 68) rfl ?_); refine goesL_ (some 29) rfl rfl Tryz.func68 (by kernel_rfl) rfl #[.string x5_2] rfl (by (try simp only [List.map_toArray, List.map_cons, List.map_nil]); first | done | rfl | (simp only [List.length_drop, List.length_take]; rfl)) ?_; (with_reducible refine (nums_Unhex.calls kj2 x5_2 t119 t120 _ A11.out).mono ?_); rintro e w20 ⟨rfl, hb⟩; refine ⟨_, rfl, ?_⟩; have n0_ := Aside0.mk (blk_below (g := gb112) (o := .cells #[.string (⟨#[]⟩ : ByteArray), .string (⟨#[]⟩ : ByteArray), .bool false] 23 (0, 0)) (by (with_reducible repeat (first | refine blk_drewN ?_ _ | refine blk_drew ?_ | refine blk_alloc ?_ _)); refine blk_far ?_ NB112_116.out _; (with_reducible repeat (first | refine blk_drewN ?_ _ | refine blk_drew ?_ | refine blk_alloc ?_ _)); exact BK112.out) hb); have n1_ := Aside0.mk (blk_below (g := gb116) (o := .cells #[.string t117, .string (⟨#[]⟩ : ByteArray), .bool (t114.toList == ([42] : List UInt8))] 23 (0, 0)) (by (with_reducible repeat (first | refine blk_drewN ?_ _ | refine blk_drew ?_ | refine blk_alloc ?_ _)); refine blk_put (cs := #[.string (⟨#[]⟩ : ByteArray), .string (⟨#[]⟩ : ByteArray), .bool (t114.toList == ([42] : List UInt8))]) ?_ 0 _ (by first | rfl | simp [*]); (with_reducible repeat (first | refine blk_drewN ?_ _ | refine blk_drew ?_ | refine blk_alloc ?_ _)); exact BK116.out) hb); have n2_ := Aside0.mk (below_step (by repeat (first | (with_reducible first | exact HB.out | apply below_alloc | apply pw_below_drewN | apply below_drew1 | refine below_set ?_ GE112.out | refine below_set ?_ GE116.out) | exact HB.out)) hb); clear BK112; clear BK116; clear HB; have BK112 := n0_; have BK116 := n1_; have HB := n2_; clear n0_ n1_ n2_; (try clear hb); (try clear hb2); (try clear hk); (try clear hi); have hcz21_0 : w20.cell? ⟨gb116, 0, none⟩ = some (.string t117) := (blk_cell BK116.out 0).trans rfl; have hcz21_1 : w20.cell? ⟨gb116, 1, none⟩ = some (.string (⟨#[]⟩ : ByteArray)) := (blk_cell BK116.out 1).trans rfl; have hcz21_2 : w20.cell? ⟨gb116, 2, none⟩ = some (.bool (t114.toList == ([42] : List UInt8))) := (blk_cell BK116.out 2).trans rfl; have hfz21_0 := blk_frozen BK116.out 0; have hfz21_1 := blk_frozen BK116.out 1; have hfz21_2 := blk_frozen BK116.out 2) | (go_at_call 45; (with_reducible refine (span_Check.calls kj2 t117 t119 (t114.toList == ([42] : List UInt8)) t121 _ A15.out).mono ?_); rintro e w22 ⟨rfl, hb⟩; have n0_ := Aside0.mk (blk_below (g := gb112) (o := .cells #[.string (⟨#[]⟩ : ByteArray), .string (⟨#[]⟩ : ByteArray), .bool false] 23 (0, 0)) (by (with_reducible repeat (first | refine blk_drewN ?_ _ | refine blk_drew ?_ | refine blk_alloc ?_ _)); refine blk_far ?_ NB112_116.out _; (with_reducible repeat (first | refine blk_drewN ?_ _ | refine blk_drew ?_ | refine blk_alloc ?_ _)); exact BK112.out) hb); have n1_ := Aside0.mk (blk_below (g := gb116) (o := .cells #[.string t117, .string t119, .bool (t114.toList == ([42] : List UInt8))] 23 (0, 0)) (by (with_reducible repeat (first | refine blk_drewN ?_ _ | refine blk_drew ?_ | refine blk_alloc ?_ _)); refine blk_put (cs := #[.string t117, .string (⟨#[]⟩ : ByteArray), .bool (t114.toList == ([42] : List UInt8))]) ?_ 1 _ (by first | rfl | simp [*]); (with_reducible repeat (first | refine blk_drewN ?_ _ | refine blk_drew ?_ | refine blk_alloc ?_ _)); exact BK116.out) hb); have n2_ := Aside0.mk (below_step (by repeat (first | (with_reducible first | exact HB.out | apply below_alloc | apply pw_below_drewN | apply below_drew1 | refine below_set ?_ GE112.out | refine below_set ?_ GE116.out) | exact HB.out)) hb); clear BK112; clear BK116; clear HB; have BK112 := n0_; have BK116 := n1_; have HB := n2_; clear n0_ n1_ n2_; (try clear hb); (try clear hb2); (try clear hk); (try clear hi); have hcz23_0 : w22.cell? ⟨gb116, 0, none⟩ = some (.string t117) := (blk_cell BK116.out 0).trans rfl; have hcz23_1 : w22.cell? ⟨gb116, 1, none⟩ = some (.string t119) := (blk_cell BK116.out 1).trans rfl; have hcz23_2 : w22.cell? ⟨gb116, 2, none⟩ = some (.bool (t114.toList == ([42] : List UInt8))) := (blk_cell BK116.out 2).trans rfl; have hfz23_0 := blk_frozen BK116.out 0; have hfz23_1 := blk_frozen BK116.out 1; have hfz23_2 := blk_frozen BK116.out 2; have hcz24_0 : w22.cell? ⟨gb112, 0, none⟩ = some (.string (⟨#[]⟩ : ByteArray)) := (blk_cell BK112.out 0).trans rfl; have hcz24_1 : w22.cell? ⟨gb112, 1, none⟩ = some (.string (⟨#[]⟩ : ByteArray)) := (blk_cell BK112.out 1).trans rfl; have hcz24_2 : w22.cell? ⟨gb112, 2, none⟩ = some (.bool false) := (blk_cell BK112.out 2).trans rfl; have hfz24_0 := blk_frozen BK112.out 0; have hfz24_1 := blk_frozen BK112.out 1; have hfz24_2 := blk_frozen BK112.out 2))
              refine bodyPost_ret (results_ct rfl _ _ gb112 23 #[.string t117, .string t119, .bool (t114.toList == ([42] : List UInt8))] (0, 0) _ rfl (by (with_reducible repeat (first | refine blk_drewN ?_ _ | refine blk_drew ?_ | refine blk_alloc ?_ _)); refine blk_put (cs := #[.string t117, .string t119, .bool false]) ?_ 2 _ (by first | rfl | simp [*]); (with_reducible repeat (first | refine blk_drewN ?_ _ | refine blk_drew ?_ | refine blk_alloc ?_ _)); refine blk_put (cs := #[.string t117, .string (⟨#[]⟩ : ByteArray), .bool false]) ?_ 1 _ (by first | rfl | simp [*]); (with_reducible repeat (first | refine blk_drewN ?_ _ | refine blk_drew ?_ | refine blk_alloc ?_ _)); refine blk_put (cs := #[.string (⟨#[]⟩ : ByteArray), .string (⟨#[]⟩ : ByteArray), .bool false]) ?_ 0 _ (by first | rfl | simp [*]); (with_reducible repeat (first | refine blk_drewN ?_ _ | refine blk_drew ?_ | refine blk_alloc ?_ _)); exact BK112.out) Tryz.underlying23 rfl (by kernel_rfl)) rfl ?_
              exact ⟨by first | rfl | (simp [errW_none, errW_some] <;> rfl) | (simp [*, errW_none, errW_some] <;> rfl), by repeat (first | (with_reducible first | exact HB.out | apply below_alloc | apply pw_below_drewN | apply below_drew1 | refine below_set ?_ GE112.out | refine below_set ?_ GE116.out) | exact HB.out)⟩
            · rw [if_neg c16] at H
              have c16b0 : (t121 == 0) = false := beq_eq_false_iff_ne.mpr c16
              have c16b1 : (t121 != 0) = true := bne_iff_ne.mpr c16
              simp only [Option.some.injEq, Prod.mk.injEq] at H
              obtain ⟨rfl, rfl, rfl, rfl⟩ := H
              go_wp2_with (first | ((with_reducible refine gate_callee (f := 68) rfl ?_); refine goesL_ (some 23) rfl rfl Tryz.func68 (by kernel_rfl) rfl #[.string t113] rfl (by (try simp only [List.map_toArray, List.map_cons, List.map_nil]); first | done | rfl | (simp only [List.length_drop, List.length_take]; rfl)) ?_; (with_reducible refine (nums_Unhex.calls kj2 t113 t117 t118 _ A10.out).mono ?_); rintro e w25 ⟨rfl, hb⟩; refine ⟨_, rfl, ?_⟩; have n0_ := Aside0.mk (blk_below (g := gb112) (o := .cells #[.string (⟨#[]⟩ : ByteArray), .string (⟨#[]⟩ : ByteArray), .bool false] 23 (0, 0)) (by (with_reducible repeat (first | refine blk_drewN ?_ _ | refine blk_drew ?_ | refine blk_alloc ?_ _)); exact BK112.out) hb); have n1_ := Aside0.mk (blk_below (g := gb116) (o := .cells #[.string (⟨#[]⟩ : ByteArray), .string (⟨#[]⟩ : ByteArray), .bool (t114.toList == ([42] : List UInt8))] 23 (0, 0)) (by (with_reducible repeat (first | refine blk_drewN ?_ _ | refine blk_drew ?_ | refine blk_alloc ?_ _)); exact BK116.out) hb); have n2_ := Aside0.mk (below_step (by repeat (first | (with_reducible first | exact HB.out | apply below_alloc | apply pw_below_drewN | apply below_drew1 | refine below_set ?_ GE112.out | refine below_set ?_ GE116.out) | exact HB.out)) hb); clear BK112; clear BK116; clear HB; have BK112 := n0_; have BK116 := n1_; have HB := n2_; clear n0_ n1_ n2_; (try clear hb); (try clear hb2); (try clear hk); (try clear hi); have hnb26 := NB116_112.out; have hnc26 := NB112_116.out; have hcz27_0 : w25.cell? ⟨gb116, 0, none⟩ = some (.string (⟨#[]⟩ : ByteArray)) := (blk_cell BK116.out 0).trans rfl; have hcz27_1 : w25.cell? ⟨gb116, 1, none⟩ = some (.string (⟨#[]⟩ : ByteArray)) := (blk_cell BK116.out 1).trans rfl; have hcz27_2 : w25.cell? ⟨gb116, 2, none⟩ = some (.bool (t114.toList == ([42] : List UInt8))) := (blk_cell BK116.out 2).trans rfl; have hfz27_0 := blk_frozen BK116.out 0; have hfz27_1 := blk_frozen BK116.out 1; have hfz27_2 := blk_frozen BK116.out 2) | ((with_reducible refine gate_callee (f := 68) rfl ?_); refine goesL_ (some 29) rfl rfl Tryz.func68 (by kernel_rfl) rfl #[.string x5_2] rfl (by (try simp only [List.map_toArray, List.map_cons, List.map_nil]); first | done | rfl | (simp only [List.length_drop, List.length_take]; rfl)) ?_; (with_reducible refine (nums_Unhex.calls kj2 x5_2 t119 t120 _ A11.out).mono ?_); rintro e w28 ⟨rfl, hb⟩; refine ⟨_, rfl, ?_⟩; have n0_ := Aside0.mk (blk_below (g := gb112) (o := .cells #[.string (⟨#[]⟩ : ByteArray), .string (⟨#[]⟩ : ByteArray), .bool false] 23 (0, 0)) (by (with_reducible repeat (first | refine blk_drewN ?_ _ | refine blk_drew ?_ | refine blk_alloc ?_ _)); refine blk_far ?_ NB112_116.out _; (with_reducible repeat (first | refine blk_drewN ?_ _ | refine blk_drew ?_ | refine blk_alloc ?_ _)); exact BK112.out) hb); have n1_ := Aside0.mk (blk_below (g := gb116) (o := .cells #[.string t117, .string (⟨#[]⟩ : ByteArray), .bool (t114.toList == ([42] : List UInt8))] 23 (0, 0)) (by (with_reducible repeat (first | refine blk_drewN ?_ _ | refine blk_drew ?_ | refine blk_alloc ?_ _)); refine blk_put (cs := #[.string (⟨#[]⟩ : ByteArray), .string (⟨#[]⟩ : ByteArray), .bool (t114.toList == ([42] : List UInt8))]) ?_ 0 _ (by first | rfl | simp [*]); (with_reducible repeat (first | refine blk_drewN ?_ _ | refine blk_drew ?_ | refine blk_alloc ?_ _)); exact BK116.out) hb); have n2_ := Aside0.mk (below_step (by repeat (first | (with_reducible first | exact HB.out | apply below_alloc | apply pw_below_drewN | apply below_drew1 | refine below_set ?_ GE112.out | refine below_set ?_ GE116.out) | exact HB.out)) hb); clear BK112; clear BK116; clear HB; have BK112 := n0_; have BK116 := n1_; have HB := n2_; clear n0_ n1_ n2_; (try clear hb); (try clear hb2); (try clear hk); (try clear hi); have hcz29_0 : w28.cell? ⟨gb116, 0, none⟩ = some (.string t117) := (blk_cell BK116.out 0).trans rfl; have hcz29_1 : w28.cell? ⟨gb116, 1, none⟩ = some (.string (⟨#[]⟩ : ByteArray)) := (blk_cell BK116.out 1).trans rfl; have hcz29_2 : w28.cell? ⟨gb116, 2, none⟩ = some (.bool (t114.toList == ([42] : List UInt8))) := (blk_cell BK116.out 2).trans rfl; have hfz29_0 := blk_frozen BK116.out 0; have hfz29_1 := blk_frozen BK116.out 1; have hfz29_2 := blk_frozen BK116.out 2) | (go_at_call 45; (with_reducible refine (span_Check.calls kj2 t117 t119 (t114.toList == ([42] : List UInt8)) t121 _ A15.out).mono ?_); rintro e w30 ⟨rfl, hb⟩; have n0_ := Aside0.mk (blk_below (g := gb112) (o := .cells #[.string (⟨#[]⟩ : ByteArray), .string (⟨#[]⟩ : ByteArray), .bool false] 23 (0, 0)) (by (with_reducible repeat (first | refine blk_drewN ?_ _ | refine blk_drew ?_ | refine blk_alloc ?_ _)); refine blk_far ?_ NB112_116.out _; (with_reducible repeat (first | refine blk_drewN ?_ _ | refine blk_drew ?_ | refine blk_alloc ?_ _)); exact BK112.out) hb); have n1_ := Aside0.mk (blk_below (g := gb116) (o := .cells #[.string t117, .string t119, .bool (t114.toList == ([42] : List UInt8))] 23 (0, 0)) (by (with_reducible repeat (first | refine blk_drewN ?_ _ | refine blk_drew ?_ | refine blk_alloc ?_ _)); refine blk_put (cs := #[.string t117, .string (⟨#[]⟩ : ByteArray), .bool (t114.toList == ([42] : List UInt8))]) ?_ 1 _ (by first | rfl | simp [*]); (with_reducible repeat (first | refine blk_drewN ?_ _ | refine blk_drew ?_ | refine blk_alloc ?_ _)); exact BK116.out) hb); have n2_ := Aside0.mk (below_step (by repeat (first | (with_reducible first | exact HB.out | apply below_alloc | apply pw_below_drewN | apply below_drew1 | refine below_set ?_ GE112.out | refine below_set ?_ GE116.out) | exact HB.out)) hb); clear BK112; clear BK116; clear HB; have BK112 := n0_; have BK116 := n1_; have HB := n2_; clear n0_ n1_ n2_; (try clear hb); (try clear hb2); (try clear hk); (try clear hi); have hcz31_0 : w30.cell? ⟨gb112, 0, none⟩ = some (.string (⟨#[]⟩ : ByteArray)) := (blk_cell BK112.out 0).trans rfl; have hcz31_1 : w30.cell? ⟨gb112, 1, none⟩ = some (.string (⟨#[]⟩ : ByteArray)) := (blk_cell BK112.out 1).trans rfl; have hcz31_2 : w30.cell? ⟨gb112, 2, none⟩ = some (.bool false) := (blk_cell BK112.out 2).trans rfl; have hfz31_0 := blk_frozen BK112.out 0; have hfz31_1 := blk_frozen BK112.out 1; have hfz31_2 := blk_frozen BK112.out 2))
              refine bodyPost_ret (results_ct rfl _ _ gb112 23 #[.string (⟨#[]⟩ : ByteArray), .string (⟨#[]⟩ : ByteArray), .bool false] (0, 0) _ rfl (by (with_reducible repeat (first | refine blk_drewN ?_ _ | refine blk_drew ?_ | refine blk_alloc ?_ _)); refine blk_put (cs := #[.string (⟨#[]⟩ : ByteArray), .string (⟨#[]⟩ : ByteArray), .bool false]) ?_ 2 _ (by first | rfl | simp [*]); (with_reducible repeat (first | refine blk_drewN ?_ _ | refine blk_drew ?_ | refine blk_alloc ?_ _)); refine blk_put (cs := #[.string (⟨#[]⟩ : ByteArray), .string (⟨#[]⟩ : ByteArray), .bool false]) ?_ 1 _ (by first | rfl | simp [*]); (with_reducible repeat (first | refine blk_drewN ?_ _ | refine blk_drew ?_ | refine blk_alloc ?_ _)); refine blk_put (cs := #[.string (⟨#[]⟩ : ByteArray), .string (⟨#[]⟩ : ByteArray), .bool false]) ?_ 0 _ (by first | rfl | simp [*]); (with_reducible repeat (first | refine blk_drewN ?_ _ | refine blk_drew ?_ | refine blk_alloc ?_ _)); exact BK112.out) Tryz.underlying23 rfl (by kernel_rfl)) rfl ?_
              exact ⟨by first | rfl | (simp [errW_none, errW_some] <;> rfl) | (simp [*, errW_none, errW_some] <;> rfl), by repeat (first | (with_reducible first | exact HB.out | apply below_alloc | apply pw_below_drewN | apply below_drew1 | refine below_set ?_ GE112.out | refine below_set ?_ GE116.out) | exact HB.out)⟩
          · rw [if_neg c14] at H
            have c14b0 : (t120 == 0) = false := beq_eq_false_iff_ne.mpr c14
            have c14b1 : (t120 != 0) = true := bne_iff_ne.mpr c14
            simp only [Option.some.injEq, Prod.mk.injEq] at H
            obtain ⟨rfl, rfl, rfl, rfl⟩ := H
            go_wp2_with (first | ((with_reducible refine gate_callee (f := 68) rfl ?_); refine goesL_ (some 23) rfl rfl Tryz.func68 (by kernel_rfl) rfl #[.string t113] rfl (by (try simp only [List.map_toArray, List.map_cons, List.map_nil]); first | done | rfl | (simp only [List.length_drop, List.length_take]; rfl)) ?_; (with_reducible refine (nums_Unhex.calls kj2 t113 t117 t118 _ A10.out).mono ?_); rintro e w32 ⟨rfl, hb⟩; refine ⟨_, rfl, ?_⟩; have n0_ := Aside0.mk (blk_below (g := gb112) (o := .cells #[.string (⟨#[]⟩ : ByteArray), .string (⟨#[]⟩ : ByteArray), .bool false] 23 (0, 0)) (by (with_reducible repeat (first | refine blk_drewN ?_ _ | refine blk_drew ?_ | refine blk_alloc ?_ _)); exact BK112.out) hb); have n1_ := Aside0.mk (blk_below (g := gb116) (o := .cells #[.string (⟨#[]⟩ : ByteArray), .string (⟨#[]⟩ : ByteArray), .bool (t114.toList == ([42] : List UInt8))] 23 (0, 0)) (by (with_reducible repeat (first | refine blk_drewN ?_ _ | refine blk_drew ?_ | refine blk_alloc ?_ _)); exact BK116.out) hb); have n2_ := Aside0.mk (below_step (by repeat (first | (with_reducible first | exact HB.out | apply below_alloc | apply pw_below_drewN | apply below_drew1 | refine below_set ?_ GE112.out | refine below_set ?_ GE116.out) | exact HB.out)) hb); clear BK112; clear BK116; clear HB; have BK112 := n0_; have BK116 := n1_; have HB := n2_; clear n0_ n1_ n2_; (try clear hb); (try clear hb2); (try clear hk); (try clear hi); have hnb33 := NB116_112.out; have hnc33 := NB112_116.out; have hcz34_0 : w32.cell? ⟨gb116, 0, none⟩ = some (.string (⟨#[]⟩ : ByteArray)) := (blk_cell BK116.out 0).trans rfl; have hcz34_1 : w32.cell? ⟨gb116, 1, none⟩ = some (.string (⟨#[]⟩ : ByteArray)) := (blk_cell BK116.out 1).trans rfl; have hcz34_2 : w32.cell? ⟨gb116, 2, none⟩ = some (.bool (t114.toList == ([42] : List UInt8))) := (blk_cell BK116.out 2).trans rfl; have hfz34_0 := blk_frozen BK116.out 0; have hfz34_1 := blk_frozen BK116.out 1; have hfz34_2 := blk_frozen BK116.out 2) | ((with_reducible refine gate_callee (f := 68) rfl ?_); refine goesL_ (some 29) rfl rfl Tryz.func68 (by kernel_rfl) rfl #[.string x5_2] rfl (by (try simp only [List.map_toArray, List.map_cons, List.map_nil]); first | done | rfl | (simp only [List.length_drop, List.length_take]; rfl)) ?_; (with_reducible refine (nums_Unhex.calls kj2 x5_2 t119 t120 _ A11.out).mono ?_); rintro e w35 ⟨rfl, hb⟩; refine ⟨_, rfl, ?_⟩; have n0_ := Aside0.mk (blk_below (g := gb112) (o := .cells #[.string (⟨#[]⟩ : ByteArray), .string (⟨#[]⟩ : ByteArray), .bool false] 23 (0, 0)) (by (with_reducible repeat (first | refine blk_drewN ?_ _ | refine blk_drew ?_ | refine blk_alloc ?_ _)); refine blk_far ?_ NB112_116.out _; (with_reducible repeat (first | refine blk_drewN ?_ _ | refine blk_drew ?_ | refine blk_alloc ?_ _)); exact BK112.out) hb); have n1_ := Aside0.mk (blk_below (g := gb116) (o := .cells #[.string t117, .string (⟨#[]⟩ : ByteArray), .bool (t114.toList == ([42] : List UInt8))] 23 (0, 0)) (by (with_reducible repeat (first | refine blk_drewN ?_ _ | refine blk_drew ?_ | refine blk_alloc ?_ _)); refine blk_put (cs := #[.string (⟨#[]⟩ : ByteArray), .string (⟨#[]⟩ : ByteArray), .bool (t114.toList == ([42] : List UInt8))]) ?_ 0 _ (by first | rfl | simp [*]); (with_reducible repeat (first | refine blk_drewN ?_ _ | refine blk_drew ?_ | refine blk_alloc ?_ _)); exact BK116.out) hb); have n2_ := Aside0.mk (below_step (by repeat (first | (with_reducible first | exact HB.out | apply below_alloc | apply pw_below_drewN | apply below_drew1 | refine below_set ?_ GE112.out | refine below_set ?_ GE116.out) | exact HB.out)) hb); clear BK112; clear BK116; clear HB; have BK112 := n0_; have BK116 := n1_; have HB := n2_; clear n0_ n1_ n2_; (try clear hb); (try clear hb2); (try clear hk); (try clear hi); have hcz36_0 : w35.cell? ⟨gb116, 0, none⟩ = some (.string t117) := (blk_cell BK116.out 0).trans rfl; have hcz36_1 : w35.cell? ⟨gb116, 1, none⟩ = some (.string (⟨#[]⟩ : ByteArray)) := (blk_cell BK116.out 1).trans rfl; have hcz36_2 : w35.cell? ⟨gb116, 2, none⟩ = some (.bool (t114.toList == ([42] : List UInt8))) := (blk_cell BK116.out 2).trans rfl; have hfz36_0 := blk_frozen BK116.out 0; have hfz36_1 := blk_frozen BK116.out 1; have hfz36_2 := blk_frozen BK116.out 2; have hcz37_0 : w35.cell? ⟨gb112, 0, none⟩ = some (.string (⟨#[]⟩ : ByteArray)) := (blk_cell BK112.out 0).trans rfl; have hcz37_1 : w35.cell? ⟨gb112, 1, none⟩ = some (.string (⟨#[]⟩ : ByteArray)) := (blk_cell BK112.out 1).trans rfl; have hcz37_2 : w35.cell? ⟨gb112, 2, none⟩ = some (.bool false) := (blk_cell BK112.out 2).trans rfl; have hfz37_0 := blk_frozen BK112.out 0; have hfz37_1 := blk_frozen BK112.out 1; have hfz37_2 := blk_frozen BK112.out 2))
            refine bodyPost_ret (results_ct rfl _ _ gb112 23 #[.string (⟨#[]⟩ : ByteArray), .string (⟨#[]⟩ : ByteArray), .bool false] (0, 0) _ rfl (by (with_reducible repeat (first | refine blk_drewN ?_ _ | refine blk_drew ?_ | refine blk_alloc ?_ _)); refine blk_put (cs := #[.string (⟨#[]⟩ : ByteArray), .string (⟨#[]⟩ : ByteArray), .bool false]) ?_ 2 _ (by first | rfl | simp [*]); (with_reducible repeat (first | refine blk_drewN ?_ _ | refine blk_drew ?_ | refine blk_alloc ?_ _)); refine blk_put (cs := #[.string (⟨#[]⟩ : ByteArray), .string (⟨#[]⟩ : ByteArray), .bool false]) ?_ 1 _ (by first | rfl | simp [*]); (with_reducible repeat (first | refine blk_drewN ?_ _ | refine blk_drew ?_ | refine blk_alloc ?_ _)); refine blk_put (cs := #[.string (⟨#[]⟩ : ByteArray), .string (⟨#[]⟩ : ByteArray), .bool false]) ?_ 0 _ (by first | rfl | simp [*]); (with_reducible repeat (first | refine blk_drewN ?_ _ | refine blk_drew ?_ | refine blk_alloc ?_ _)); refine blk_far ?_ NB112_116.out _; (with_reducible repeat (first | refine blk_drewN ?_ _ | refine blk_drew ?_ | refine blk_alloc ?_ _)); exact BK112.out) Tryz.underlying23 rfl (by kernel_rfl)) rfl ?_
            exact ⟨by first | rfl | (simp [errW_none, errW_some] <;> rfl) | (simp [*, errW_none, errW_some] <;> rfl), by repeat (first | (with_reducible first | exact HB.out | apply below_alloc | apply pw_below_drewN | apply below_drew1 | refine below_set ?_ GE112.out | refine below_set ?_ GE116.out) | exact HB.out)⟩
        · rw [if_neg c13] at H
          have c13b0 : (t118 == 0) = false := beq_eq_false_iff_ne.mpr c13
          have c13b1 : (t118 != 0) = true := bne_iff_ne.mpr c13
          simp only [Option.some.injEq, Prod.mk.injEq] at H
          obtain ⟨rfl, rfl, rfl, rfl⟩ := H
          go_wp2_with (first | ((with_reducible refine gate_callee (f := 68) rfl ?_); refine goesL_ (some 23) rfl rfl Tryz.func68 (by kernel_rfl) rfl #[.string t113] rfl (by (try simp only [List.map_toArray, List.map_cons, List.map_nil]); first | done | rfl | (simp only [List.length_drop, List.length_take]; rfl)) ?_; (with_reducible refine (nums_Unhex.calls kj2 t113 t117 t118 _ A10.out).mono ?_); rintro e w38 ⟨rfl, hb⟩; refine ⟨_, rfl, ?_⟩; have n0_ := Aside0.mk (blk_below (g := gb112) (o := .cells #[.string (⟨#[]⟩ : ByteArray), .string (⟨#[]⟩ : ByteArray), .bool false] 23 (0, 0)) (by (with_reducible repeat (first | refine blk_drewN ?_ _ | refine blk_drew ?_ | refine blk_alloc ?_ _)); exact BK112.out) hb); have n1_ := Aside0.mk (blk_below (g := gb116) (o := .cells #[.string (⟨#[]⟩ : ByteArray), .string (⟨#[]⟩ : ByteArray), .bool (t114.toList == ([42] : List UInt8))] 23 (0, 0)) (by (with_reducible repeat (first | refine blk_drewN ?_ _ | refine blk_drew ?_ | refine blk_alloc ?_ _)); exact BK116.out) hb); have n2_ := Aside0.mk (below_step (by repeat (first | (with_reducible first | exact HB.out | apply below_alloc | apply pw_below_drewN | apply below_drew1 | refine below_set ?_ GE112.out | refine below_set ?_ GE116.out) | exact HB.out)) hb); clear BK112; clear BK116; clear HB; have BK112 := n0_; have BK116 := n1_; have HB := n2_; clear n0_ n1_ n2_; (try clear hb); (try clear hb2); (try clear hk); (try clear hi); have hnb39 := NB116_112.out; have hnc39 := NB112_116.out; have hcz40_0 : w38.cell? ⟨gb116, 0, none⟩ = some (.string (⟨#[]⟩ : ByteArray)) := (blk_cell BK116.out 0).trans rfl; have hcz40_1 : w38.cell? ⟨gb116, 1, none⟩ = some (.string (⟨#[]⟩ : ByteArray)) := (blk_cell BK116.out 1).trans rfl; have hcz40_2 : w38.cell? ⟨gb116, 2, none⟩ = some (.bool (t114.toList == ([42] : List UInt8))) := (blk_cell BK116.out 2).trans rfl; have hfz40_0 := blk_frozen BK116.out 0; have hfz40_1 := blk_frozen BK116.out 1; have hfz40_2 := blk_frozen BK116.out 2) | ((with_reducible refine gate_callee (f := 68) rfl ?_); refine goesL_ (some 29) rfl rfl Tryz.func68 (by kernel_rfl) rfl #[.string x5_2] rfl (by (try simp only [List.map_toArray, List.map_cons, List.map_nil]); first | done | rfl | (simp only [List.length_drop, List.length_take]; rfl)) ?_; (with_reducible refine (nums_Unhex.calls kj2 x5_2 t119 t120 _ A11.out).mono ?_); rintro e w41 ⟨rfl, hb⟩; refine ⟨_, rfl, ?_⟩; have n0_ := Aside0.mk (blk_below (g := gb112) (o := .cells #[.string (⟨#[]⟩ : ByteArray), .string (⟨#[]⟩ : ByteArray), .bool false] 23 (0, 0)) (by (with_reducible repeat (first | refine blk_drewN ?_ _ | refine blk_drew ?_ | refine blk_alloc ?_ _)); refine blk_far ?_ NB112_116.out _; (with_reducible repeat (first | refine blk_drewN ?_ _ | refine blk_drew ?_ | refine blk_alloc ?_ _)); exact BK112.out) hb); have n1_ := Aside0.mk (blk_below (g := gb116) (o := .cells #[.string t117, .string (⟨#[]⟩ : ByteArray), .bool (t114.toList == ([42] : List UInt8))] 23 (0, 0)) (by (with_reducible repeat (first | refine blk_drewN ?_ _ | refine blk_drew ?_ | refine blk_alloc ?_ _)); refine blk_put (cs := #[.string (⟨#[]⟩ : ByteArray), .string (⟨#[]⟩ : ByteArray), .bool (t114.toList == ([42] : List UInt8))]) ?_ 0 _ (by first | rfl | simp [*]); (with_reducible repeat (first | refine blk_drewN ?_ _ | refine blk_drew ?_ | refine blk_alloc ?_ _)); exact BK116.out) hb); have n2_ := Aside0.mk (below_step (by repeat (first | (with_reducible first | exact HB.out | apply below_alloc | apply pw_below_drewN | apply below_drew1 | refine below_set ?_ GE112.out | refine below_set ?_ GE116.out) | exact HB.out)) hb); clear BK112; clear BK116; clear HB; have BK112 := n0_; have BK116 := n1_; have HB := n2_; clear n0_ n1_ n2_; (try clear hb); (try clear hb2); (try clear hk); (try clear hi); have hcz42_0 : w41.cell? ⟨gb116, 0, none⟩ = some (.string t117) := (blk_cell BK116.out 0).trans rfl; have hcz42_1 : w41.cell? ⟨gb116, 1, none⟩ = some (.string (⟨#[]⟩ : ByteArray)) := (blk_cell BK116.out 1).trans rfl; have hcz42_2 : w41.cell? ⟨gb116, 2, none⟩ = some (.bool (t114.toList == ([42] : List UInt8))) := (blk_cell BK116.out 2).trans rfl; have hfz42_0 := blk_frozen BK116.out 0; have hfz42_1 := blk_frozen BK116.out 1; have hfz42_2 := blk_frozen BK116.out 2; have hcz43_0 : w41.cell? ⟨gb112, 0, none⟩ = some (.string (⟨#[]⟩ : ByteArray)) := (blk_cell BK112.out 0).trans rfl; have hcz43_1 : w41.cell? ⟨gb112, 1, none⟩ = some (.string (⟨#[]⟩ : ByteArray)) := (blk_cell BK112.out 1).trans rfl; have hcz43_2 : w41.cell? ⟨gb112, 2, none⟩ = some (.bool false) := (blk_cell BK112.out 2).trans rfl; have hfz43_0 := blk_frozen BK112.out 0; have hfz43_1 := blk_frozen BK112.out 1; have hfz43_2 := blk_frozen BK112.out 2))
          refine bodyPost_ret (results_ct rfl _ _ gb112 23 #[.string (⟨#[]⟩ : ByteArray), .string (⟨#[]⟩ : ByteArray), .bool false] (0, 0) _ rfl (by (with_reducible repeat (first | refine blk_drewN ?_ _ | refine blk_drew ?_ | refine blk_alloc ?_ _)); refine blk_put (cs := #[.string (⟨#[]⟩ : ByteArray), .string (⟨#[]⟩ : ByteArray), .bool false]) ?_ 2 _ (by first | rfl | simp [*]); (with_reducible repeat (first | refine blk_drewN ?_ _ | refine blk_drew ?_ | refine blk_alloc ?_ _)); refine blk_put (cs := #[.string (⟨#[]⟩ : ByteArray), .string (⟨#[]⟩ : ByteArray), .bool false]) ?_ 1 _ (by first | rfl | simp [*]); (with_reducible repeat (first | refine blk_drewN ?_ _ | refine blk_drew ?_ | refine blk_alloc ?_ _)); refine blk_put (cs := #[.string (⟨#[]⟩ : ByteArray), .string (⟨#[]⟩ : ByteArray), .bool false]) ?_ 0 _ (by first | rfl | simp [*]); (with_reducible repeat (first | refine blk_drewN ?_ _ | refine blk_drew ?_ | refine blk_alloc ?_ _)); refine blk_far ?_ NB112_116.out _; (with_reducible repeat (first | refine blk_drewN ?_ _ | refine blk_drew ?_ | refine blk_alloc ?_ _)); exact BK112.out) Tryz.underlying23 rfl (by kernel_rfl)) rfl ?_
          exact ⟨by first | rfl | (simp [errW_none, errW_some] <;> rfl) | (simp [*, errW_none, errW_some] <;> rfl), by repeat (first | (with_reducible first | exact HB.out | apply below_alloc | apply pw_below_drewN | apply below_drew1 | refine below_set ?_ GE112.out | refine below_set ?_ GE116.out) | exact HB.out)⟩
      · replace c12 := Bool.eq_false_iff.mpr c12
        subst c12
        have H1 : (some ((⟨#[]⟩ : ByteArray), (⟨#[]⟩ : ByteArray), false, 23)) = some (r1, r2, r3, r4) := by rw [if_neg (show ¬ (false = true) by decide)] at H; exact H
        clear H
        have H := H1
        clear H1
        simp only [Option.some.injEq, Prod.mk.injEq] at H
        obtain ⟨rfl, rfl, rfl, rfl⟩ := H
        go_wp2_with (first | ((with_reducible refine gate_callee (f := 68) rfl ?_); refine goesL_ (some 23) rfl rfl Tryz.func68 (by kernel_rfl) rfl #[.string t113] rfl (by (try simp only [List.map_toArray, List.map_cons, List.map_nil]); first | done | rfl | (simp only [List.length_drop, List.length_take]; rfl)) ?_; (with_reducible refine (nums_Unhex.calls kj2 t113 t117 t118 _ A10.out).mono ?_); rintro e w44 ⟨rfl, hb⟩; refine ⟨_, rfl, ?_⟩; have n0_ := Aside0.mk (blk_below (g := gb112) (o := .cells #[.string (⟨#[]⟩ : ByteArray), .string (⟨#[]⟩ : ByteArray), .bool false] 23 (0, 0)) (by (with_reducible repeat (first | refine blk_drewN ?_ _ | refine blk_drew ?_ | refine blk_alloc ?_ _)); exact BK112.out) hb); have n1_ := Aside0.mk (blk_below (g := gb116) (o := .cells #[.string (⟨#[]⟩ : ByteArray), .string (⟨#[]⟩ : ByteArray), .bool (t114.toList == ([42] : List UInt8))] 23 (0, 0)) (by (with_reducible repeat (first | refine blk_drewN ?_ _ | refine blk_drew ?_ | refine blk_alloc ?_ _)); exact BK116.out) hb); have n2_ := Aside0.mk (below_step (by repeat (first | (with_reducible first | exact HB.out | apply below_alloc | apply pw_below_drewN | apply below_drew1 | refine below_set ?_ GE112.out | refine below_set ?_ GE116.out) | exact HB.out)) hb); clear BK112; clear BK116; clear HB; have BK112 := n0_; have BK116 := n1_; have HB := n2_; clear n0_ n1_ n2_; (try clear hb); (try clear hb2); (try clear hk); (try clear hi); have hnb45 := NB116_112.out; have hnc45 := NB112_116.out; have hcz46_0 : w44.cell? ⟨gb116, 0, none⟩ = some (.string (⟨#[]⟩ : ByteArray)) := (blk_cell BK116.out 0).trans rfl; have hcz46_1 : w44.cell? ⟨gb116, 1, none⟩ = some (.string (⟨#[]⟩ : ByteArray)) := (blk_cell BK116.out 1).trans rfl; have hcz46_2 : w44.cell? ⟨gb116, 2, none⟩ = some (.bool (t114.toList == ([42] : List UInt8))) := (blk_cell BK116.out 2).trans rfl; have hfz46_0 := blk_frozen BK116.out 0; have hfz46_1 := blk_frozen BK116.out 1; have hfz46_2 := blk_frozen BK116.out 2) | ((with_reducible refine gate_callee (f := 68) rfl ?_); refine goesL_ (some 29) rfl rfl Tryz.func68 (by kernel_rfl) rfl #[.string x5_2] rfl (by (try simp only [List.map_toArray, List.map_cons, List.map_nil]); first | done | rfl | (simp only [List.length_drop, List.length_take]; rfl)) ?_; (with_reducible refine (nums_Unhex.calls kj2 x5_2 t119 t120 _ A11.out).mono ?_); rintro e w47 ⟨rfl, hb⟩; refine ⟨_, rfl, ?_⟩; have n0_ := Aside0.mk (blk_below (g := gb112) (o := .cells #[.string (⟨#[]⟩ : ByteArray), .string (⟨#[]⟩ : ByteArray), .bool false] 23 (0, 0)) (by (with_reducible repeat (first | refine blk_drewN ?_ _ | refine blk_drew ?_ | refine blk_alloc ?_ _)); refine blk_far ?_ NB112_116.out _; (with_reducible repeat (first | refine blk_drewN ?_ _ | refine blk_drew ?_ | refine blk_alloc ?_ _)); exact BK112.out) hb); have n1_ := Aside0.mk (blk_below (g := gb116) (o := .cells #[.string t117, .string (⟨#[]⟩ : ByteArray), .bool (t114.toList == ([42] : List UInt8))] 23 (0, 0)) (by (with_reducible repeat (first | refine blk_drewN ?_ _ | refine blk_drew ?_ | refine blk_alloc ?_ _)); refine blk_put (cs := #[.string (⟨#[]⟩ : ByteArray), .string (⟨#[]⟩ : ByteArray), .bool (t114.toList == ([42] : List UInt8))]) ?_ 0 _ (by first | rfl | simp [*]); (with_reducible repeat (first | refine blk_drewN ?_ _ | refine blk_drew ?_ | refine blk_alloc ?_ _)); exact BK116.out) hb); have n2_ := Aside0.mk (below_step (by repeat (first | (with_reducible first | exact HB.out | apply below_alloc | apply pw_below_drewN | apply below_drew1 | refine below_set ?_ GE112.out | refine below_set ?_ GE116.out) | exact HB.out)) hb); clear BK112; clear BK116; clear HB; have BK112 := n0_; have BK116 := n1_; have HB := n2_; clear n0_ n1_ n2_; (try clear hb); (try clear hb2); (try clear hk); (try clear hi); have hcz48_0 : w47.cell? ⟨gb116, 0, none⟩ = some (.string t117) := (blk_cell BK116.out 0).trans rfl; have hcz48_1 : w47.cell? ⟨gb116, 1, none⟩ = some (.string (⟨#[]⟩ : ByteArray)) := (blk_cell BK116.out 1).trans rfl; have hcz48_2 : w47.cell? ⟨gb116, 2, none⟩ = some (.bool (t114.toList == ([42] : List UInt8))) := (blk_cell BK116.out 2).trans rfl; have hfz48_0 := blk_frozen BK116.out 0; have hfz48_1 := blk_frozen BK116.out 1; have hfz48_2 := blk_frozen BK116.out 2; have hcz49_0 : w47.cell? ⟨gb112, 0, none⟩ = some (.string (⟨#[]⟩ : ByteArray)) := (blk_cell BK112.out 0).trans rfl; have hcz49_1 : w47.cell? ⟨gb112, 1, none⟩ = some (.string (⟨#[]⟩ : ByteArray)) := (blk_cell BK112.out 1).trans rfl; have hcz49_2 : w47.cell? ⟨gb112, 2, none⟩ = some (.bool false) := (blk_cell BK112.out 2).trans rfl; have hfz49_0 := blk_frozen BK112.out 0; have hfz49_1 := blk_frozen BK112.out 1; have hfz49_2 := blk_frozen BK112.out 2))
        refine bodyPost_ret (results_ct rfl _ _ gb112 23 #[.string (⟨#[]⟩ : ByteArray), .string (⟨#[]⟩ : ByteArray), .bool false] (0, 0) _ rfl (by (with_reducible repeat (first | refine blk_drewN ?_ _ | refine blk_drew ?_ | refine blk_alloc ?_ _)); refine blk_put (cs := #[.string (⟨#[]⟩ : ByteArray), .string (⟨#[]⟩ : ByteArray), .bool false]) ?_ 2 _ (by first | rfl | simp [*]); (with_reducible repeat (first | refine blk_drewN ?_ _ | refine blk_drew ?_ | refine blk_alloc ?_ _)); refine blk_put (cs := #[.string (⟨#[]⟩ : ByteArray), .string (⟨#[]⟩ : ByteArray), .bool false]) ?_ 1 _ (by first | rfl | simp [*]); (with_reducible repeat (first | refine blk_drewN ?_ _ | refine blk_drew ?_ | refine blk_alloc ?_ _)); refine blk_put (cs := #[.string (⟨#[]⟩ : ByteArray), .string (⟨#[]⟩ : ByteArray), .bool false]) ?_ 0 _ (by first | rfl | simp [*]); (with_reducible repeat (first | refine blk_drewN ?_ _ | refine blk_drew ?_ | refine blk_alloc ?_ _)); refine blk_far ?_ NB112_116.out _; (with_reducible repeat (first | refine blk_drewN ?_ _ | refine blk_drew ?_ | refine blk_alloc ?_ _)); exact BK112.out) Tryz.underlying23 rfl (by kernel_rfl)) rfl ?_
        exact ⟨by first | rfl | (simp [errW_none, errW_some] <;> rfl) | (simp [*, errW_none, errW_some] <;> rfl), by repeat (first | (with_reducible first | exact HB.out | apply below_alloc | apply pw_below_drewN | apply below_drew1 | refine below_set ?_ GE112.out | refine below_set ?_ GE116.out) | exact HB.out)⟩
end Go.Proofs.YtodmbjbfigifnaaGreatDoor.PAll
set_option linter.unusedVariables false
set_option linter.unusedSimpArgs false
namespace Go.Proofs.YtodmbjbfigifnaaGreatDoor.Dig
open Go.RowKit Go.Shelf Go.Lib Go.Proofs.YtodmbjbfigifnaaGreatDoorW.PrintWords
theorem itoa_nat (m : Nat) : itoa (m : Int) = decDigits m := by
  unfold itoa
  rw [if_neg (by omega), Int.toNat_natCast]
theorem digits_calls (m : Nat) (n : Int) (hm : max n 0 = (m : Int)) (h1 : n ≤ 9223372036854775807) (w : World) (hT : TabsOK w) :
    Calls Tryz.prog 25 #[.int .i64 n] w fun e w' => e = .returned (.string ⟨(decDigits m).toArray⟩) ∧ Below w.heap.size w w' := by
  go_enter Tryz.func25, Tryz.ntmps25
  go_wp2_with (go_at_call 44; refine (Tryz.strconv_Itoa (m : Int) (by omega) (by omega) _ hT.1).mono ?_; rintro e w1 ⟨rfl, q, os, rfl⟩)
  go_ret
  exact ⟨by rw [itoa_nat]; rfl, below_grow _ _ (Nat.le_refl _) _ _⟩
theorem digit_piece : ∀ i : Fin 10, (⟨#[48, 49, 50, 51, 52, 53, 54, 55, 56, 57]⟩ : ByteArray).extract i.val (i.val + 1) = ⟨#[UInt8.ofNat (48 + i.val)]⟩ := by decide +kernel
theorem dslice (i : Nat) (hi : i < 10) (w : World) : (Instr.slice 9 (.string ⟨#[48, 49, 50, 51, 52, 53, 54, 55, 56, 57]⟩) (some (.int .i64 (i : Int))) (some (.int .i64 ((i : Int) + 1))) none).run Tryz.prog w = .ok (.string ⟨#[UInt8.ofNat (48 + i)]⟩) w := by
  rw [run_slice_string _ 9 _ .i64 .i64 (i : Int) ((i : Int) + 1) Tryz.underlying9 (by omega) (by omega) (by show _ ≤ ((10 : Nat) : Int); omega)]
  rw [show ((i : Int) + 1).toNat = i + 1 by omega, Int.toNat_natCast, digit_piece ⟨i, hi⟩]
theorem nDigits_le (m : Nat) : nDigits m ≤ m + 1 := by
  induction m using Nat.strongRecOn with
  | _ m ih =>
    by_cases h : m < 10
    · rw [nDigits_small h]; omega
    · rw [nDigits_big h]
      have := ih (m / 10) (by omega)
      omega
theorem dec_size (m : Nat) : (⟨(decDigits m).toArray⟩ : ByteArray).size ≤ m + 1 := by
  show (decDigits m).toArray.size ≤ _
  rw [List.size_toArray, decDigits_length]
  exact nDigits_le m
theorem dec_snoc {m : Nat} (h : ¬ m < 10) : (⟨(decDigits (m / 10)).toArray⟩ : ByteArray) ++ ⟨#[UInt8.ofNat (48 + m % 10)]⟩ = ⟨(decDigits m).toArray⟩ := by
  rw [show decDigits m = decDigits (m / 10) ++ [UInt8.ofNat (48 + m % 10)] by rw [decDigits, dif_neg h]]
  apply ByteArray.ext
  simp
set_option maxRecDepth 100000 in
theorem rdigits : ∀ (m : Nat), m ≤ 9223372036854775807 → ∀ w, Calls Tryz.prog 16 #[.int .i64 (m : Int)] w fun e w' => e = .returned (.string ⟨(decDigits m).toArray⟩) ∧ ∃ q, w' = w.drewN q := by
  intro m
  induction m using Nat.strongRecOn with
  | _ m ih =>
    intro hm w
    by_cases h : m < 10
    · have c1 : decide ((m : Int) < 10) = true := decide_eq_true (by omega)
      have c2 : decide ((m : Int) < 0) = false := decide_eq_false (by omega)
      have hsl := dslice m h
      have HD := Aside0.mk (show decDigits m = [UInt8.ofNat (48 + m)] by rw [decDigits, dif_pos h])
      generalize UInt8.ofNat (48 + m) = p at hsl HD
      go_enter Tryz.func16, Tryz.ntmps16
      go_wp2
      go_ret
      exact ⟨by rw [HD.out]; rfl, 0, rfl⟩
    · have c1 : decide ((m : Int) < 10) = false := decide_eq_false (by omega)
      have HS := Aside0.mk (dec_snoc h)
      have HZ := Aside0.mk (dec_size (m / 10))
      have hd : m / 10 < m := by omega
      have hd2 : m / 10 + 2 ≤ m := by omega
      have hr : m % 10 < 10 := by omega
      have e1 : Int.tdiv (m : Int) 10 = ((m / 10 : Nat) : Int) := by rw [Int.tdiv_eq_ediv_of_nonneg (by omega)]; rfl
      have e2 : Int.tmod (m : Int) 10 = ((m % 10 : Nat) : Int) := by rw [Int.tmod_eq_emod_of_nonneg (by omega)]; rfl
      generalize m / 10 = d at HS HZ hd hd2 e1
      generalize m % 10 = r at HS hr e2
      have e3 : IntKind.i64.wrap (d : Int) = (d : Int) := by rw [IntKind.wrap_i64]; omega
      have e4 : IntKind.i64.wrap (r : Int) = (r : Int) := by rw [IntKind.wrap_i64]; omega
      have e5 : IntKind.i64.wrap ((r : Int) + 1) = (r : Int) + 1 := by rw [IntKind.wrap_i64]; omega
      have hsl := dslice r hr
      generalize UInt8.ofNat (48 + r) = p at hsl HS
      have hq : ∀ q, Calls Tryz.prog 16 #[.int .i64 (d : Int)] (w.drewN q) fun e w'' => e = .returned (.string ⟨(decDigits d).toArray⟩) ∧ ∃ m, w'' = w.drewN m := fun q => Calls.quiet_of (ih d hd (by omega) (w.drewN q))
      have hz : (⟨(decDigits d).toArray⟩ : ByteArray).size + 1 ≤ 9223372036854775807 := by have := HZ.out; omega
      generalize (⟨(decDigits d).toArray⟩ : ByteArray) = td at HS hq hz
      go_enter Tryz.func16, Tryz.ntmps16
      go_wp2
      go_quiet ((go_at_call 16; exact hq _))
      go_wp2
      go_ret
      exact ⟨by rw [← HS.out]; rfl, _, rfl⟩
end Go.Proofs.YtodmbjbfigifnaaGreatDoor.Dig
set_option linter.unusedVariables false
set_option linter.unusedSimpArgs false
namespace Go.Proofs.YtodmbjbfigifnaaGreatDoor.Dig
open Go.RowKit Go.Shelf Go.Lib Go.Proofs.YtodmbjbfigifnaaGreatDoorW.PrintWords
theorem rdigits_neg (n : Int) (hn : n < 0) (w : World) : Calls Tryz.prog 16 #[.int .i64 n] w fun e w' => e = .returned (.string ⟨(decDigits 0).toArray⟩) ∧ ∃ q, w' = w.drewN q := by
  have c1 : decide (n < 10) = true := decide_eq_true (by omega)
  have c2 : decide (n < 0) = true := decide_eq_true hn
  have hsl : ∀ w, (Instr.slice 9 (.string ⟨#[48, 49, 50, 51, 52, 53, 54, 55, 56, 57]⟩) (some (.int .i64 0)) (some (.int .i64 1)) none).run Tryz.prog w = .ok (.string ⟨#[48]⟩) w := fun w => dslice 0 (by decide) w
  go_enter Tryz.func16, Tryz.ntmps16
  go_wp2
  go_ret
  exact ⟨by rw [decDigits, dif_pos (by decide)]; rfl, 0, rfl⟩
theorem below_bytes (w : World) (e : TypeId) (t : ByteArray) : Below w.heap.size w (bytesWorld w e t) := ⟨rfl, rfl, rfl, by rw [bytesWorld_size]; omega, fun k hk => bytesWorld_at_old w e t k hk⟩
theorem pu_ok (t : ByteArray) (hne : t.size ≠ 0) (hmax : t.size ≤ 9223372036854775806) (u : Nat) (h : parseUint10 0 t.data.toList = .ok u) (w : World) :
    Calls Tryz.prog 78 #[.string t, .int .i64 10, .int .i64 64] w fun e w' => e = .returned (.tuple #[.int .u64 u, .nilIface]) ∧ Below w.heap.size w w' := by
  have hI := Tryz.internal_strconv_ParseUint_10_b64 t hne hmax w
  rw [h] at hI
  have hI' : Calls Tryz.prog 88 #[.string t, .int .i64 10, .int .i64 64] w fun e w' => e = .returned (.tuple #[.int .u64 u, .nilIface]) ∧ w' = bytesWorld w 5 t := hI
  clear hI h
  go_enter Tryz.func78, Tryz.ntmps78
  go_wp2_with (go_at_call 88; refine hI'.mono ?_; rintro e W1 ⟨rfl, rfl⟩)
  go_ret2
  exact ⟨rfl, below_bytes _ _ _⟩
theorem pu_range (t : ByteArray) (hne : t.size ≠ 0) (hmax : t.size ≤ 9223372036854775806) (hlim : t.size ≤ 281474976710656) (h : parseUint10 0 t.data.toList = .range) (w : World) (hT : TabsOK w) :
    Calls Tryz.prog 78 #[.string t, .int .i64 10, .int .i64 64] w fun e w' => ∃ (v : Int) (N : Nat), e = .returned (.tuple #[.int .u64 v, .iface 132 (.pointer (some ⟨N, 0, none⟩))]) ∧ Below w.heap.size w w' := by
  have hI := Tryz.internal_strconv_ParseUint_10_b64 t hne hmax w
  rw [h] at hI
  have hI' : Calls Tryz.prog 88 #[.string t, .int .i64 10, .int .i64 64] w fun e w' => e = .returned (.tuple #[.int .u64 18446744073709551615, .iface 129 (.int .i64 1)]) ∧ w' = bytesWorld w 5 t := hI
  clear hI h
  go_enter Tryz.func78, Tryz.ntmps78
  go_wp2_with (first
    | (go_at_call 88; refine hI'.mono ?_; rintro e W1 ⟨rfl, hW⟩; have HB := Aside0.mk (hW ▸ below_bytes w 5 t : Below w.heap.size w W1); clear hW; obtain ⟨_, ev, hv, hev⟩ := hT.below HB.out)
    | (go_at_call 89; refine (Tryz.strconv_toError_range _ t _ _ ev _ hlim hv hev).mono ?_; rintro e W2 ⟨N, rfl, _, _, hb2⟩))
  go_ret2
  exact ⟨_, _, rfl, HB.out.trans (hb2.mono HB.out.size)⟩
/-- Is a byte a digit? -/
def isD (c : UInt8) : Bool := decide (48 ≤ c.toNat) && decide (c.toNat ≤ 57)
/-- A number that ParseUint tells, within a bound. -/
def numU (e : NumEnd Nat) (most : Int) : Int × Int :=
  match e with
  | .ok u => if 9223372036854775807 < u then (0, 12) else if most < (u : Int) then (0, 12) else ((u : Int), 0)
  | _ => (0, 12)
/-- What nums.Parse answers. -/
def numP (l : List UInt8) (most : Int) : Int × Int :=
  if l.length = 0 then (0, 23) else if l.getD 0 0 = 48 ∧ l ≠ [48] then (0, 23) else if l.all isD = true then numU (parseUint10 0 l) most else (0, 23)
theorem toL (t : ByteArray) : t.toList = t.data.toList := Go.ByteArray.toList_eq t
theorem digits_end : ∀ (l : List UInt8) (acc : Nat), l.all isD = true → (∃ u, parseUint10 acc l = .ok u) ∨ parseUint10 acc l = .range
  | [], acc, _ => .inl ⟨acc, by rw [parseUint10]⟩
  | c :: l, acc, h => by
    simp only [List.all_cons, Bool.and_eq_true] at h
    have hc : 48 ≤ c.toNat ∧ c.toNat ≤ 57 := by simpa [isD] using h.1
    rw [parseUint10, if_pos hc]
    split
    · exact .inr rfl
    · split
      · exact .inr rfl
      · exact digits_end l _ h.2
theorem all_at {l : List UInt8} {k : Nat} (hk : k < l.length) : (l.take (k + 1)).all isD = ((l.take k).all isD && isD (l.getD k 0)) := by
  rw [List.take_add_one, List.all_append, List.getD_eq_getElem?_getD, List.getElem?_eq_getElem hk]
  simp
theorem not_all {l : List UInt8} {k : Nat} (hk : k < l.length) (h : isD (l.getD k 0) = false) : l.all isD = false := by
  rw [Bool.eq_false_iff]
  intro ha
  have := List.all_eq_true.1 ha (l.getD k 0) (by rw [List.getD_eq_getElem?_getD, List.getElem?_eq_getElem hk]; exact List.getElem_mem hk)
  rw [h] at this
  cases this
set_option maxRecDepth 100000 in
set_option maxHeartbeats 4000000 in
theorem parse_calls (t : ByteArray) (most : Int) (hlim : t.size ≤ 4294967296) (w : World) (hT : TabsOK w) :
    Calls Tryz.prog 66 #[.string t, .int .i64 most] w fun e w' => e = .returned (.tuple #[.int .i64 (numP t.data.toList most).1, .int .i64 (numP t.data.toList most).2]) ∧ Below w.heap.size w w' := by
  have hLn : t.data.toList.length = t.size := Lib.size_eq t
  by_cases h0 : t.size = 0
  · have hr : numP t.data.toList most = (0, 23) := by unfold numP; rw [if_pos (by omega)]
    have ht : t = ⟨#[]⟩ := by
      apply ByteArray.ext
      exact Array.eq_empty_of_size_eq_zero h0
    rw [hr]
    subst ht
    go_enter Tryz.func66, Tryz.ntmps66
    go_wp2
    go_ret2
    exact ⟨rfl, Below.refl _ _⟩
  · have hp0 : 0 < t.size := Nat.pos_of_ne_zero h0
    have hemp : t.toList.isEmpty = false := by rw [toL]; cases h : t.data.toList with | nil => rw [h] at hLn; simp at hLn; omega | cons a l => rfl
    have hg0 : (t[0]'hp0) = t.data.toList.getD 0 0 := by
      rw [List.getD_eq_getElem?_getD, List.getElem?_eq_getElem (by omega)]; rfl
    have h48 : t.data.toList.getD 0 0 = 48 ↔ ((t[0]'hp0).toNat : Int) = 48 := by
      rw [← hg0]
      constructor
      · intro h; rw [h]; rfl
      · intro h; exact UInt8.toNat_inj.1 (by have : (48 : UInt8).toNat = 48 := rfl; omega)
    by_cases hbad : t.data.toList.getD 0 0 = 48 ∧ t.data.toList ≠ [48]
    · have hr : numP t.data.toList most = (0, 23) := by unfold numP; rw [if_neg (by omega), if_pos hbad]
      rw [hr]
      have e0 := h48.1 hbad.1
      have e1 : (!(t.toList == [48])) = true := by rw [toL]; simpa using hbad.2
      clear hg0 h48 hbad hr hLn
      go_enter Tryz.func66, Tryz.ntmps66
      go_wp2
      go_ret2
      exact ⟨rfl, Below.refl _ _⟩
    · have hE : (((t[0]'hp0).toNat : Int) = 48 ∧ (!(t.toList == [48])) = false) ∨ (((t[0]'hp0).toNat : Int) == 48) = false := by
        by_cases h1 : t.data.toList.getD 0 0 = 48
        · refine .inl ⟨h48.1 h1, ?_⟩
          rw [toL]
          have : t.data.toList = [48] := Classical.byContradiction fun h => hbad ⟨h1, h⟩
          rw [this]; rfl
        · exact .inr (by rw [beq_eq_false_iff_ne]; exact fun h => h1 (h48.2 h))
      have hr : numP t.data.toList most = if t.data.toList.all isD = true then numU (parseUint10 0 t.data.toList) most else (0, 23) := by unfold numP; rw [if_neg (by omega), if_neg hbad]
      have hcv := Go.Lib.run_convert_string_bytes (P := Tryz.prog) w 9 64 5 t Tryz.underlying9 Tryz.underlying64 Tryz.underlying5
      have hBW := Aside0.mk (below_bytes w 5 t)
      have hB := Aside0.mk (fun j (hj : j < t.size) => bytesWorld_cell w 5 t j hj)
      generalize bytesWorld w 5 t = W1 at hcv hBW hB
      generalize grownCap w t.size 0 5 = cc at hcv
      have HR := Aside0.mk hr
      have HT := Aside0.mk hT
      have HL := Aside0.mk hLn
      generalize hbs : t.data.toList = bs at HR HL hB
      have HBS := Aside0.mk hbs
      clear hg0 h48 hbad hr hT hLn hbs
      go_enter Tryz.func66, Tryz.ntmps66
      rcases hE with ⟨e0, e1⟩ | e0
      all_goals
        go_wp2
        go_loop [24] (fun v24 => ∃ k : Nat, v24 = .int .i64 k ∧ k ≤ t.size ∧ Aside0 ((bs.take k).all isD = true)) (fun v24 => t.size - (Go.RowKit.intOf v24).toNat)
        case atStart => exact ⟨0, rfl, by omega, ⟨by simp⟩⟩
        case round =>
          obtain ⟨k, rfl, hk, HA⟩ := hrel
          by_cases hkn : k < t.size
          · have hc := hB.out k hkn
            have HK := Aside0.mk (all_at (l := bs) (k := k) (by rw [HL.out]; exact hkn))
            have HN := Aside0.mk (not_all (l := bs) (k := k) (by rw [HL.out]; exact hkn))
            generalize bs.getD k 0 = c at hc HK HN
            have hc256 : c.toNat < 256 := c.toNat_lt
            by_cases hlo : c.toNat < 48
            · have i0 : (c.toNat : Int) < 48 := by omega
              have hd : isD c = false := by unfold isD; rw [decide_eq_false (by omega), Bool.false_and]
              have HZ := Aside0.mk (HN.out hd)
              clear HK HN hd hlo HA
              go_wp2
              go_ret2
              exact ⟨by rw [HR.out, HZ.out]; rfl, hBW.out⟩
            · have i0 : ¬ (c.toNat : Int) < 48 := by omega
              by_cases hhi : c.toNat > 57
              · have i1 : (c.toNat : Int) > 57 := by omega
                have hd : isD c = false := by unfold isD; rw [decide_eq_false (show ¬ c.toNat ≤ 57 by omega), Bool.and_false]
                have HZ := Aside0.mk (HN.out hd)
                clear HK HN hd hlo hhi HA
                go_wp2
                go_ret2
                exact ⟨by rw [HR.out, HZ.out]; rfl, hBW.out⟩
              · have i1 : ¬ (c.toNat : Int) > 57 := by omega
                have hd : isD c = true := by unfold isD; rw [decide_eq_true (by omega), decide_eq_true (by omega)]; rfl
                have HA' := Aside0.mk (show (bs.take (k + 1)).all isD = true by rw [HK.out, HA.out, hd]; rfl)
                clear HK HN hd hlo hhi HA
                go_wp2
                exact ⟨⟨k + 1, rfl, by omega, HA'⟩, by simp [Go.RowKit.intOf]; omega⟩
          · obtain rfl : k = t.size := by omega
            have HF := Aside0.mk (show bs.all isD = true by have := HA.out; rwa [← HL.out, List.take_length] at this)
            have HT1 := Aside0.mk (HT.out.below hBW.out)
            clear HA hkn
            rcases digits_end bs 0 HF.out with ⟨u, hp⟩ | hp
            rotate_left
            · have HP := Aside0.mk (show parseUint10 0 t.data.toList = .range by rw [HBS.out]; exact hp)
              have HX := Aside0.mk (show numP bs most = (0, 12) by rw [HR.out, if_pos HF.out, hp]; rfl)
              clear hp
              go_wp2_with (go_at_call 78; refine (pu_range t h0 (by omega) (by omega) HP.out _ HT1.out).mono ?_; rintro e W2 ⟨v, N, rfl, hb2⟩; have HB2 := Aside0.mk hb2; clear hb2)
              go_ret2
              exact ⟨by rw [HX.out]; rfl, hBW.out.trans (HB2.out.mono hBW.out.size)⟩
            · have HP := Aside0.mk (show parseUint10 0 t.data.toList = .ok u by rw [HBS.out]; exact hp)
              have HX := Aside0.mk (show numP bs most = if 9223372036854775807 < u then (0, 12) else if most < (u : Int) then (0, 12) else ((u : Int), 0) by rw [HR.out, if_pos HF.out, hp]; rfl)
              clear hp
              obtain ⟨z, hz⟩ : ∃ z : Int, z = (u : Int) := ⟨_, rfl⟩
              have HZ := Aside0.mk hz
              have z0 : 0 ≤ z := by omega
              have HPU : ∀ w, Calls Tryz.prog 78 #[.string t, .int .i64 10, .int .i64 64] w fun e w' => e = .returned (.tuple #[.int .u64 z, .nilIface]) ∧ Below w.heap.size w w' := fun w => by rw [hz]; exact pu_ok t h0 (by omega) u HP.out w
              clear hz
              by_cases h1 : 9223372036854775807 < z
              · have i1 : z > 9223372036854775807 := h1
                have HX' := Aside0.mk (show numP bs most = (0, 12) by rw [HX.out, if_pos (by have := HZ.out; omega)])
                go_wp2_with (go_at_call 78; refine (HPU _).mono ?_; rintro e W2 ⟨rfl, hb2⟩; have HB2 := Aside0.mk hb2; clear hb2)
                go_ret2
                exact ⟨by rw [HX'.out]; rfl, hBW.out.trans (HB2.out.mono hBW.out.size)⟩
              · have i1 : ¬ z > 9223372036854775807 := h1
                have hwr : IntKind.i64.wrap z = z := by rw [IntKind.wrap_i64]; omega
                by_cases h2 : most < z
                · have i2 : z > most := h2
                  have HX' := Aside0.mk (show numP bs most = (0, 12) by rw [HX.out, if_neg (by have := HZ.out; omega), if_pos (by have := HZ.out; omega)])
                  go_wp2_with (go_at_call 78; refine (HPU _).mono ?_; rintro e W2 ⟨rfl, hb2⟩; have HB2 := Aside0.mk hb2; clear hb2)
                  go_ret2
                  exact ⟨by rw [HX'.out]; rfl, hBW.out.trans (HB2.out.mono hBW.out.size)⟩
                · have i2 : ¬ z > most := h2
                  have HX' := Aside0.mk (show numP bs most = (z, 0) by rw [HX.out, if_neg (by have := HZ.out; omega), if_neg (by have := HZ.out; omega), HZ.out])
                  go_wp2_with (go_at_call 78; refine (HPU _).mono ?_; rintro e W2 ⟨rfl, hb2⟩; have HB2 := Aside0.mk hb2; clear hb2)
                  go_ret2
                  exact ⟨by rw [HX'.out]; rfl, hBW.out.trans (HB2.out.mono hBW.out.size)⟩
end Go.Proofs.YtodmbjbfigifnaaGreatDoor.Dig
set_option linter.unusedVariables false
namespace Go.Proofs.YtodmbjbfigifnaaGreatDoor.PAll
open Go.RowKit Go.Proofs.YtodmbjbfigifnaaGreatDoor.Glob Go.Proofs.YtodmbjbfigifnaaGreatDoor.Dig Go.Proofs.YtodmbjbfigifnaaGreatDoorW.PrintWords
def nums_Digits.f (a0 : Int) : Option ByteArray := if a0 ≤ 9223372036854775807 then some ⟨(Lib.decDigits (max a0 0).toNat).toArray⟩ else none
theorem nums_Digits.calls (a0 : Int) (r : ByteArray) (w : World) (hG : GlobOK w) (h : nums_Digits.f a0 = some r) :
    Calls Tryz.prog 25 #[.int .i64 a0] w fun e w' => e = .returned (.string r) ∧ Below w.heap.size w w' := by
  unfold nums_Digits.f at h
  by_cases h1 : a0 ≤ 9223372036854775807
  · rw [if_pos h1] at h
    obtain rfl := Option.some.inj h
    exact digits_calls (max a0 0).toNat a0 (by omega) h1 w hG.1
  · rw [if_neg h1] at h; cases h
def tidelineref01_Digits.f (a0 : Int) : Option ByteArray := if a0 ≤ 9223372036854775807 then some ⟨(Lib.decDigits (max a0 0).toNat).toArray⟩ else none
theorem tidelineref01_Digits.calls (a0 : Int) (r : ByteArray) (w : World) (h : tidelineref01_Digits.f a0 = some r) :
    Calls Tryz.prog 16 #[.int .i64 a0] w fun e w' => e = .returned (.string r) ∧ Below w.heap.size w w' := by
  unfold tidelineref01_Digits.f at h
  by_cases h1 : a0 ≤ 9223372036854775807
  · rw [if_pos h1] at h
    obtain rfl := Option.some.inj h
    by_cases hn : a0 < 0
    · rw [show (max a0 0).toNat = 0 by omega]
      exact (rdigits_neg a0 hn w).mono fun e w' ⟨h1, q, h2⟩ => ⟨h1, h2 ▸ below_drewN (Below.refl _ _) q⟩
    · obtain ⟨m, rfl⟩ := Int.eq_ofNat_of_zero_le (show 0 ≤ a0 by omega)
      rw [show (max (m : Int) 0).toNat = m by omega]
      exact (rdigits m (by omega) w).mono fun e w' ⟨h1, q, h2⟩ => ⟨h1, h2 ▸ below_drewN (Below.refl _ _) q⟩
  · rw [if_neg h1] at h; cases h
def nums_Parse.f (a0 : ByteArray) (a1 : Int) : Option (Int × Int) := if a0.size ≤ 4294967296 then some (numP a0.data.toList a1) else none
theorem nums_Parse.calls (a0 : ByteArray) (a1 : Int) (r1 r2 : Int) (w : World) (hG : GlobOK w) (h : nums_Parse.f a0 a1 = some (r1, r2)) :
    Calls Tryz.prog 66 #[.string a0, .int .i64 a1] w fun e w' => e = .returned (.tuple #[.int .i64 r1, .int .i64 r2]) ∧ Below w.heap.size w w' := by
  unfold nums_Parse.f at h
  by_cases h1 : a0.size ≤ 4294967296
  · rw [if_pos h1] at h
    have h2 := Option.some.inj h
    have := parse_calls a0 a1 h1 w hG.1
    rwa [h2] at this
  · rw [if_neg h1] at h; cases h
end Go.Proofs.YtodmbjbfigifnaaGreatDoor.PAll
set_option linter.unusedVariables false
set_option linter.unusedSimpArgs false
namespace Go.Proofs.YtodmbjbfigifnaaGreatDoor.Pure
open Go.RowKit Go.Proofs.YtodmbjbfigifnaaGreatDoor.PAll Go.Proofs.YtodmbjbfigifnaaGreatDoorW.PrintWords Go.Proofs.YtodmbjbfigifnaaGreatDoorW.PrintLast Go.Proofs.YtodmbjbfigifnaaGreatDoorW.PrintMore
theorem wrap_id {x : Int} (h0 : -9223372036854775808 ≤ x) (h1 : x ≤ 9223372036854775807) : wrap64 x = x := by
  unfold wrap64; omega
theorem Ev.val {α : Type} {g : Nat → Option α} {r q : α} (h : Ev g r) (e : r = q) : Ev g q := e ▸ h
theorem Ev.const {α : Type} {v : Option α} {r : α} (h : v = some r) : Ev (fun _ => v) r := ⟨0, fun _ _ => h⟩
theorem wrap_succ {q : Nat} (h : q ≤ 9223372036854775806) : wrap64 ((q : Int) + 1) = ((q + 1 : Nat) : Int) := by rw [wrap_id (by omega) (by omega)]; rfl
end Go.Proofs.YtodmbjbfigifnaaGreatDoor.Pure
set_option linter.unusedVariables false
set_option linter.unusedSimpArgs false
namespace Go.Proofs.YtodmbjbfigifnaaGreatDoor.Pure
open Go.RowKit Go.Proofs.YtodmbjbfigifnaaGreatDoor.PAll Go.Proofs.YtodmbjbfigifnaaGreatDoorW.PrintWords Go.Proofs.YtodmbjbfigifnaaGreatDoorW.PrintLast Go.Proofs.YtodmbjbfigifnaaGreatDoorW.PrintMore
theorem rd_nat (l : List Int) (i : Nat) (h : i < l.length) : rd l (i : Int) = l[i] := by
  unfold rd; rw [Int.toNat_natCast, List.getD_eq_getElem?_getD, List.getElem?_eq_getElem h]; rfl
theorem ba_eq {a b : ByteArray} : a.toList = b.toList ↔ a = b := by
  constructor
  · intro h
    rw [Go.ByteArray.toList_eq, Go.ByteArray.toList_eq] at h
    cases a; cases b
    simp only [ByteArray.mk.injEq]
    exact Array.toList_inj.1 h
  · rintro rfl; rfl
end Go.Proofs.YtodmbjbfigifnaaGreatDoor.Pure
set_option linter.unusedVariables false
set_option linter.unusedSimpArgs false
namespace Go.Proofs.YtodmbjbfigifnaaGreatDoor.Pure
open Go.RowKit Go.Proofs.YtodmbjbfigifnaaGreatDoor.PAll Go.Proofs.YtodmbjbfigifnaaGreatDoorW.PrintWords Go.Proofs.YtodmbjbfigifnaaGreatDoorW.PrintLast Go.Proofs.YtodmbjbfigifnaaGreatDoorW.PrintMore
/-- A digit to the base 16. -/
def hdI (n : Int) : Int := if n < 10 then 48 + n else 87 + n
def hexI (l : List Int) : List Int := l.flatMap fun b => [hdI (b / 16), hdI (b % 16)]
/-- A text's bytes, written. -/
def hexB (s : ByteArray) : ByteArray := strOfNums (hexI (bytesOf s))
theorem hexI_length (l : List Int) : (hexI l).length = 2 * l.length := by
  induction l with
  | nil => rfl
  | cons a l ih => simp only [hexI, List.flatMap_cons, List.length_append, List.length_cons, List.length_nil] at ih ⊢; omega
theorem hexI_append (a b : List Int) : hexI (a ++ b) = hexI a ++ hexI b := by simp [hexI]
theorem byte_bd (s : ByteArray) : ∀ x ∈ bytesOf s, 0 ≤ x ∧ x < 256 := by
  intro x hx
  unfold bytesOf at hx
  obtain ⟨b, _, rfl⟩ := List.mem_map.1 hx
  have := b.toNat_lt
  omega
theorem tab_hd : ∀ n : Fin 16, bt (⟨#[48, 49, 50, 51, 52, 53, 54, 55, 56, 57, 97, 98, 99, 100, 101, 102]⟩ : ByteArray) ((n.val : Nat) : Int) = hdI ((n.val : Nat) : Int) := by decide +kernel
theorem tab_hd' (n : Int) (h0 : 0 ≤ n) (h1 : n < 16) : bt (⟨#[48, 49, 50, 51, 52, 53, 54, 55, 56, 57, 97, 98, 99, 100, 101, 102]⟩ : ByteArray) n = hdI n := by
  have := tab_hd ⟨n.toNat, by omega⟩
  simpa [Int.toNat_of_nonneg h0] using this
theorem and15 : ∀ n : Fin 256, Go.bits .and .u8 ((n.val : Nat) : Int) 15 = ((n.val : Nat) : Int) % 16 := by decide +kernel
theorem and15' (n : Int) (h0 : 0 ≤ n) (h1 : n < 256) : Go.bits .and .u8 n 15 = n % 16 := by
  have := and15 ⟨n.toNat, by omega⟩
  simpa [Int.toNat_of_nonneg h0] using this
theorem take_snoc {α : Type} (l : List α) (i : Nat) (h : i < l.length) : l.take (i + 1) = l.take i ++ [l[i]] := by rw [List.take_succ_eq_append_getElem h]
theorem hex_loop (s : ByteArray) (hs : s.size ≤ 35184372088832) (d : Nat) : ∀ i : Nat, i + d = s.size → Ev (fun k => nums_Hex.l0 k (hexI ((bytesOf s).take i)) (bytesOf s) (s.size : Int) (i : Int)) (hexB s) := by
  induction d with
  | zero =>
    intro i hd
    refine Ev.step (fun k => by rw [nums_Hex.l0]) ?_
    simp only [if_neg (show ¬ (i : Int) < (s.size : Int) by omega)]
    rw [List.take_of_length_le (by rw [bytesOf_length]; omega)]
    exact Ev.const rfl
  | succ d ih =>
    intro i hd
    refine Ev.step (fun k => by rw [nums_Hex.l0]) ?_
    have hl : i < (bytesOf s).length := by rw [bytesOf_length]; omega
    rw [rd_nat _ i hl, bytesOf_length]
    have hb := byte_bd s _ (List.getElem_mem hl)
    have hih := ih (i + 1) (by omega)
    rw [take_snoc _ i hl, hexI_append] at hih
    have hlen : (hexI ((bytesOf s).take i)).length ≤ 2 * i := by rw [hexI_length, List.length_take]; omega
    generalize hx : (bytesOf s)[i] = x at hb hih
    simp only [if_pos (show (i : Int) < (s.size : Int) by omega), if_pos (show (0 : Int) ≤ (i : Int) by omega), if_pos (show 0 ≤ x / 16 by omega), if_pos (show x / 16 < 16 by omega), and15' x hb.1 hb.2,
      if_pos (show 0 ≤ x % 16 by omega), if_pos (show x % 16 < 16 by omega), tab_hd' (x / 16) (by omega) (by omega), tab_hd' (x % 16) (by omega) (by omega), Option.bind_some, List.length_cons, List.length_nil,
      if_pos (show (hexI ((bytesOf s).take i)).length + (0 + 1 + 1) < 140737488355328 by omega)]
    rw [wrap_succ (by omega)]
    exact hih
theorem hex_f (s : ByteArray) (hs : s.size ≤ 35184372088832) : Ev (fun k => nums_Hex.f k s) (hexB s) := by
  have e : wrap64 (2 * (s.size : Int)) = ((2 * s.size : Nat) : Int) := by rw [wrap_id (by omega) (by omega)]; omega
  refine Ev.congr (fun k => by rw [nums_Hex.f, e]) ?_
  simp only [if_pos (show (0 : Int) ≤ ((2 * s.size : Nat) : Int) by omega), Int.toNat_natCast, if_pos (show 2 * s.size ≤ 281474976710656 by omega), if_pos (show s.size ≤ 9223372036854775807 by omega), Option.bind_some, bytesOf_length]
  exact hex_loop s hs s.size 0 (by omega)
/-- What a digit is worth; -1: it is none. -/
def nibI (c : Int) : Int := if 48 ≤ c ∧ c ≤ 57 then c - 48 else if 97 ≤ c ∧ c ≤ 102 then c - 87 else -1
theorem nib_f (c : Int) (h0 : 0 ≤ c) (h1 : c < 256) : Ev (fun k => nums_nibble.f k c) (if 0 ≤ nibI c then (nibI c, true) else (0, false)) := by
  have g : ∀ k, nums_nibble.f k c = nums_nibble.j0 k c (decide (48 ≤ c ∧ c ≤ 57)) := by
    intro k
    unfold nums_nibble.f
    by_cases h : 48 ≤ c
    · rw [if_pos h]; congr 1; simp [h]
    · rw [if_neg h]; congr 1; simp [h]
  refine Ev.congr g (Ev.step (fun k => by rw [nums_nibble.j0]) ?_)
  unfold nibI
  by_cases h : 48 ≤ c ∧ c ≤ 57
  · simp only [decide_eq_true h, if_true, if_pos h, if_pos (show 0 ≤ c - 48 by omega)]
    exact Ev.const (by rw [show (c - 48) % 256 = c - 48 by omega])
  · simp only [decide_eq_false h, if_neg (show ¬ (false = true) by decide), if_neg h]
    by_cases h2 : 97 ≤ c
    · simp only [if_pos h2]
      by_cases h3 : c ≤ 102
      · simp only [if_pos h3, if_pos (show 97 ≤ c ∧ c ≤ 102 from ⟨h2, h3⟩), if_pos (show 0 ≤ c - 87 by omega)]
        exact Ev.const (by rw [show ((c - 97) % 256 + 10) % 256 = c - 87 by omega])
      · simp only [if_neg h3, if_neg (show ¬ (97 ≤ c ∧ c ≤ 102) by omega)]; exact Ev.const rfl
    · simp only [if_neg h2, if_neg (show ¬ (97 ≤ c ∧ c ≤ 102) by omega)]; exact Ev.const rfl
theorem nibI_bd (c : Int) : -1 ≤ nibI c ∧ nibI c < 16 := by unfold nibI; (repeat' split) <;> omega
/-- The bytes that digits say. -/
def unhexI : List Int → Option (List Int)
  | a :: b :: r => if 0 ≤ nibI a ∧ 0 ≤ nibI b then (unhexI r).map (fun x => (16 * nibI a + nibI b) :: x) else none
  | [] => some []
  | [_] => none
/-- What Unhex answers. -/
def unhE (s : ByteArray) : ByteArray × Int := match unhexI (bytesOf s) with | some l => (strOfNums l, 0) | none => (⟨#[]⟩, 23)
theorem or16 : ∀ a b : Fin 16, Go.bits .or .u8 ((((a.val : Nat) : Int) * 16) % 256) ((b.val : Nat) : Int) = 16 * ((a.val : Nat) : Int) + ((b.val : Nat) : Int) := by decide +kernel
theorem or16' (a b : Int) (h0 : 0 ≤ a) (h1 : a < 16) (h2 : 0 ≤ b) (h3 : b < 16) : Go.bits .or .u8 ((a * 16) % 256) b = 16 * a + b := by
  have := or16 ⟨a.toNat, by omega⟩ ⟨b.toNat, by omega⟩
  simpa [Int.toNat_of_nonneg h0, Int.toNat_of_nonneg h2] using this
theorem bytesOf_drop (s : ByteArray) (n : Nat) : bytesOf (s.extract n s.size) = (bytesOf s).drop n := by
  unfold bytesOf; rw [Go.Lib.extract_to_end, List.map_drop]
theorem bt_nat (s : ByteArray) (i : Nat) (h : i < (bytesOf s).length) : bt s (i : Int) = (bytesOf s)[i] := by rw [← rd_bytesOf, rd_nat _ i h]
theorem size_drop (s : ByteArray) (n : Nat) (h : n ≤ s.size) : (s.extract n s.size).size = s.size - n := by
  rw [← bytesOf_length, bytesOf_drop, List.length_drop, bytesOf_length]
theorem toList_nil (s : ByteArray) : s.toList = [] ↔ s.size = 0 := by
  rw [Go.ByteArray.toList_eq]
  constructor
  · intro h
    have := congrArg List.length h
    rw [Array.length_toList] at this
    exact this
  · intro h
    exact List.eq_nil_of_length_eq_zero (by rw [Array.length_toList]; exact h)
theorem unhex_loop (n : Nat) : ∀ (s : ByteArray) (acc : List Int), s.size = 2 * n → acc.length + n ≤ 70368744177664 →
    Ev (fun k => nums_Unhex.l0 k s acc) (match unhexI (bytesOf s) with | some l => (strOfNums (acc ++ l), 0) | none => (⟨#[]⟩, 23)) := by
  induction n with
  | zero =>
    intro s acc hs ha
    refine Ev.step (fun k => by rw [nums_Unhex.l0]) ?_
    simp only [if_pos ((toList_nil s).2 (by omega))]
    have : bytesOf s = [] := List.eq_nil_of_length_eq_zero (by rw [bytesOf_length]; omega)
    rw [this]
    simp only [unhexI, List.append_nil]
    exact Ev.const rfl
  | succ n ih =>
    intro s acc hs ha
    refine Ev.step (fun k => by rw [nums_Unhex.l0]) ?_
    have hne : ¬ s.toList = [] := fun h => by have := (toList_nil s).1 h; omega
    simp only [if_neg hne, if_pos (show (0 : Int) < (s.size : Int) by omega), if_pos (show (1 : Int) < (s.size : Int) by omega), if_pos (show (2 : Int) ≤ (s.size : Int) by omega), if_pos (show acc.length < 140737488355328 by omega)]
    have hl : (bytesOf s).length = 2 * (n + 1) := by rw [bytesOf_length, hs]
    have e0 := bt_nat s 0 (by omega)
    have e1 := bt_nat s 1 (by omega)
    have hb0 := byte_bd s _ (List.getElem_mem (show 0 < (bytesOf s).length by omega))
    have hb1 := byte_bd s _ (List.getElem_mem (show 1 < (bytesOf s).length by omega))
    have hcons : bytesOf s = (bytesOf s)[0] :: (bytesOf s)[1] :: bytesOf (s.extract 2 s.size) := by
      rw [bytesOf_drop]
      have h0 := List.drop_eq_getElem_cons (show 0 < (bytesOf s).length by omega)
      have h1 := List.drop_eq_getElem_cons (show 1 < (bytesOf s).length by omega)
      rw [List.drop_zero] at h0
      rw [h1] at h0
      exact h0
    have e0' : bt s 0 = (bytesOf s)[0] := e0
    have e1' : bt s 1 = (bytesOf s)[1] := e1
    rw [e0', e1']
    generalize (bytesOf s)[0] = a at *
    generalize (bytesOf s)[1] = b at *
    refine Ev.bind (nib_f a hb0.1 hb0.2) (Ev.bind (nib_f b hb1.1 hb1.2) ?_)
    have na := nibI_bd a
    have nb := nibI_bd b
    rw [hcons]
    by_cases ha' : 0 ≤ nibI a
    · by_cases hb' : 0 ≤ nibI b
      · simp only [if_pos ha', if_pos hb', if_true, unhexI, if_pos (show 0 ≤ nibI a ∧ 0 ≤ nibI b from ⟨ha', hb'⟩)]
        rw [or16' _ _ ha' na.2 hb' nb.2]
        have := ih (s.extract 2 s.size) (acc ++ [16 * nibI a + nibI b]) (by rw [size_drop s 2 (by omega)]; omega) (by simp; omega)
        refine Ev.val this ?_
        cases unhexI (bytesOf (s.extract 2 s.size)) <;> simp
      · simp only [if_pos ha', if_neg hb', if_true, unhexI, if_neg (show ¬ (0 ≤ nibI a ∧ 0 ≤ nibI b) from fun h => hb' h.2)]
        exact Ev.const rfl
    · simp only [if_neg ha', unhexI, if_neg (show ¬ (0 ≤ nibI a ∧ 0 ≤ nibI b) from fun h => ha' h.1)]
      exact Ev.const rfl
theorem unhexI_odd (l : List Int) : ∀ n, l.length = 2 * n + 1 → unhexI l = none := by
  intro n
  induction n generalizing l with
  | zero =>
    intro h
    match l, h with
    | [a], _ => rfl
  | succ n ih =>
    intro h
    match l, h with
    | a :: b :: r, h =>
      simp only [unhexI]
      rw [ih r (by simp at h; omega)]
      split <;> rfl
theorem unhex_f (s : ByteArray) (hs : s.size ≤ 70368744177664) : Ev (fun k => nums_Unhex.f k s) (unhE s) := by
  refine Ev.congr (fun k => by rw [nums_Unhex.f]) ?_
  unfold unhE
  by_cases h : (s.size : Int) % 2 = 0
  · rw [show wrap64 ((s.size : Int) / 2) = ((s.size / 2 : Nat) : Int) by rw [wrap_id (by omega) (by omega)]; rfl]
    simp only [if_pos h, if_pos (show (0 : Int) ≤ ((s.size / 2 : Nat) : Int) by omega), Int.toNat_natCast, if_pos (show s.size / 2 ≤ 281474976710656 by omega)]
    exact unhex_loop (s.size / 2) s [] (by omega) (by simp; omega)
  · simp only [if_neg h]
    rw [unhexI_odd _ (s.size / 2) (by rw [bytesOf_length]; omega)]
    exact Ev.const rfl
theorem nib_hd (n : Int) (h0 : 0 ≤ n) (h1 : n < 16) : nibI (hdI n) = n := by unfold nibI hdI; (repeat' split) <;> omega
theorem unhex_hex : ∀ l : List Int, (∀ x ∈ l, 0 ≤ x ∧ x < 256) → unhexI (hexI l) = some l
  | [], _ => rfl
  | a :: l, h => by
    have ha := h a List.mem_cons_self
    have ih := unhex_hex l (fun x hx => h x (List.mem_cons_of_mem a hx))
    show unhexI (hdI (a / 16) :: hdI (a % 16) :: hexI l) = _
    simp only [unhexI, nib_hd (a / 16) (by omega) (by omega), nib_hd (a % 16) (by omega) (by omega), if_pos (show 0 ≤ a / 16 ∧ 0 ≤ a % 16 by omega), ih, Option.map_some]
    rw [show 16 * (a / 16) + a % 16 = a by omega]
theorem hd_nib (c : Int) (h : 0 ≤ nibI c) : hdI (nibI c) = c := by unfold nibI at h ⊢; unfold hdI; (repeat' split) <;> (repeat' split at h) <;> omega
theorem hex_unhex : ∀ (l r : List Int), unhexI l = some r → hexI r = l ∧ ∀ x ∈ r, 0 ≤ x ∧ x < 256
  | [], r, h => by simp only [unhexI, Option.some.injEq] at h; subst h; exact ⟨rfl, by simp⟩
  | [a], r, h => by simp [unhexI] at h
  | a :: b :: l, r, h => by
    simp only [unhexI] at h
    by_cases hc : 0 ≤ nibI a ∧ 0 ≤ nibI b
    · rw [if_pos hc] at h
      obtain ⟨r', hr, rfl⟩ := Option.map_eq_some_iff.1 h
      obtain ⟨ih, ihb⟩ := hex_unhex l r' hr
      have na := nibI_bd a
      have nb := nibI_bd b
      refine ⟨?_, ?_⟩
      · show hdI ((16 * nibI a + nibI b) / 16) :: hdI ((16 * nibI a + nibI b) % 16) :: hexI r' = _
        rw [show (16 * nibI a + nibI b) / 16 = nibI a by omega, show (16 * nibI a + nibI b) % 16 = nibI b by omega, hd_nib a hc.1, hd_nib b hc.2, ih]
      · intro x hx
        rcases List.mem_cons.1 hx with rfl | hx
        · omega
        · exact ihb x hx
    · rw [if_neg hc] at h; cases h
theorem bytesOf_str (l : List Int) (h : ∀ x ∈ l, 0 ≤ x ∧ x < 256) : bytesOf (strOfNums l) = l := by
  unfold bytesOf
  rw [strOfNums_data, List.map_map]
  conv => rhs; rw [← List.map_id l]
  refine List.map_congr_left fun x hx => ?_
  have := h x hx
  simp only [Function.comp_apply, id_eq]
  rw [UInt8.toNat_ofNat']
  omega
theorem str_bytesOf (s : ByteArray) : strOfNums (bytesOf s) = s := by
  apply Go.WideShapes.bytes_inj
  rw [strOfNums_data]
  unfold bytesOf
  rw [List.map_map]
  conv => rhs; rw [← List.map_id s.data.toList]
  refine List.map_congr_left fun x _ => ?_
  simp
theorem hdI_bd (n : Int) (h0 : 0 ≤ n) (h1 : n < 16) : 48 ≤ hdI n ∧ hdI n < 103 := by unfold hdI; split <;> omega
theorem hexI_bd (l : List Int) (h : ∀ x ∈ l, 0 ≤ x ∧ x < 256) : ∀ x ∈ hexI l, 48 ≤ x ∧ x < 103 := by
  intro x hx
  unfold hexI at hx
  obtain ⟨b, hb, hx⟩ := List.mem_flatMap.1 hx
  have := h b hb
  simp only [List.mem_cons, List.not_mem_nil, or_false] at hx
  rcases hx with rfl | rfl
  · exact hdI_bd _ (by omega) (by omega)
  · exact hdI_bd _ (by omega) (by omega)
theorem bytes_hexB (s : ByteArray) : bytesOf (hexB s) = hexI (bytesOf s) := bytesOf_str _ (fun x hx => by have := hexI_bd _ (byte_bd s) x hx; omega)
theorem hexB_size (s : ByteArray) : (hexB s).size = 2 * s.size := by unfold hexB; rw [strOfNums_size, hexI_length, bytesOf_length]
/-- There and back. -/
theorem unhE_hexB (s : ByteArray) : unhE (hexB s) = (s, 0) := by
  unfold unhE
  rw [bytes_hexB, unhex_hex _ (byte_bd s)]
  show (strOfNums (bytesOf s), (0 : Int)) = _
  rw [str_bytesOf]
theorem hexB_unhE (t : ByteArray) (h : (unhE t).2 = 0) : hexB (unhE t).1 = t := by
  unfold unhE at h ⊢
  cases hu : unhexI (bytesOf t) with
  | none => rw [hu] at h; simp at h
  | some l =>
    obtain ⟨h1, h2⟩ := hex_unhex _ _ hu
    simp only
    unfold hexB
    rw [bytesOf_str l h2, h1, str_bytesOf]
end Go.Proofs.YtodmbjbfigifnaaGreatDoor.Pure
set_option linter.unusedVariables false
set_option linter.unusedSimpArgs false
namespace Go.Proofs.YtodmbjbfigifnaaGreatDoor.Pure
open Go.RowKit Go.Proofs.YtodmbjbfigifnaaGreatDoor.PAll Go.Proofs.YtodmbjbfigifnaaGreatDoorW.PrintWords Go.Proofs.YtodmbjbfigifnaaGreatDoorW.PrintLast Go.Proofs.YtodmbjbfigifnaaGreatDoorW.PrintMore
/-- What is wrong with a range. -/
def rgE (lo hi : ByteArray) (op : Bool) : Int := if lo.size > 16 ∨ hi.size > 16 then 20 else if op = true then (if hi.toList = [] then 0 else 21) else if Op.bytesLess hi.toList lo.toList = true then 21 else 0
theorem rgE_f (lo hi : ByteArray) (op : Bool) : Ev (fun k => span_Check.f k lo hi op) (rgE lo hi op) := by
  have g : ∀ k, span_Check.f k lo hi op = span_Check.j0 k (decide (lo.size > 16 ∨ hi.size > 16)) lo hi op := by
    intro k
    unfold span_Check.f
    by_cases h : (lo.size : Int) > 16
    · rw [if_pos h, decide_eq_true h, decide_eq_true (show lo.size > 16 ∨ hi.size > 16 by omega)]
    · rw [if_neg h]
      by_cases h2 : (hi.size : Int) > 16
      · rw [decide_eq_true h2, decide_eq_true (show lo.size > 16 ∨ hi.size > 16 by omega)]
      · rw [decide_eq_false h2, decide_eq_false (show ¬ (lo.size > 16 ∨ hi.size > 16) by omega)]
  refine Ev.congr g (Ev.step (fun k => by rw [span_Check.j0]) ?_)
  unfold rgE
  by_cases h : lo.size > 16 ∨ hi.size > 16
  · rw [decide_eq_true h, if_pos h]; exact Ev.const rfl
  · rw [decide_eq_false h, if_neg h]
    simp only [if_neg (show ¬ (false = true) by decide)]
    cases op with
    | true =>
      simp only [if_true]
      refine Ev.step (fun k => by rw [span_Check.j1]) ?_
      by_cases h2 : hi.toList = []
      · simp only [h2, if_true]; exact Ev.const rfl
      · have : (hi.toList != ([] : List UInt8)) = true := by rw [bne_iff_ne]; exact h2
        simp only [this, if_neg h2, if_true]; exact Ev.const rfl
    | false =>
      simp only [if_neg (show ¬ (false = true) by decide)]
      refine Ev.step (fun k => by rw [span_Check.j1]) ?_
      simp only [if_neg (show ¬ (false = true) by decide)]
      by_cases h2 : Op.bytesLess hi.toList lo.toList = true
      · simp only [if_pos h2]; exact Ev.const rfl
      · simp only [if_neg h2]; exact Ev.const rfl
end Go.Proofs.YtodmbjbfigifnaaGreatDoor.Pure
set_option linter.unusedVariables false
set_option linter.unusedSimpArgs false
namespace Go.Proofs.YtodmbjbfigifnaaGreatDoor.Pure
open Go.RowKit Go.Proofs.YtodmbjbfigifnaaGreatDoor.PAll Go.Proofs.YtodmbjbfigifnaaGreatDoorW.PrintWords Go.Proofs.YtodmbjbfigifnaaGreatDoorW.PrintLast Go.Proofs.YtodmbjbfigifnaaGreatDoorW.PrintMore
/-- What Parse answers, of what Cut has cut. -/
def parV (lo hi : ByteArray) (ok : Bool) : ByteArray × ByteArray × Bool × Int :=
  let op := hi.toList == ([42] : List UInt8)
  let h := unhE (if op = true then (⟨#[]⟩ : ByteArray) else hi)
  if ok = true ∧ (unhE lo).2 = 0 ∧ h.2 = 0 ∧ rgE (unhE lo).1 h.1 op = 0 then ((unhE lo).1, h.1, op, 0) else ((⟨#[]⟩ : ByteArray), (⟨#[]⟩ : ByteArray), false, 23)
theorem parse_j0 (lo hi : ByteArray) (ok op : Bool) (hl : lo.size ≤ 70368744177664) (hh : hi.size ≤ 70368744177664) :
    Ev (fun k => span_Parse.j0 k lo hi ok (⟨#[]⟩ : ByteArray) (⟨#[]⟩ : ByteArray) op)
      (if ok = true ∧ (unhE lo).2 = 0 ∧ (unhE hi).2 = 0 ∧ rgE (unhE lo).1 (unhE hi).1 op = 0 then ((unhE lo).1, (unhE hi).1, op, 0) else ((⟨#[]⟩ : ByteArray), (⟨#[]⟩ : ByteArray), false, 23)) := by
  refine Ev.step (fun k => by rw [span_Parse.j0]) ?_
  refine Ev.bind (unhex_f lo hl) (Ev.bind (unhex_f hi hh) ?_)
  by_cases h1 : ok = true
  · by_cases h2 : (unhE lo).2 = 0
    · by_cases h3 : (unhE hi).2 = 0
      · simp only [if_pos h1, if_pos h2, if_pos h3]
        refine Ev.bind (rgE_f _ _ op) ?_
        by_cases h4 : rgE (unhE lo).1 (unhE hi).1 op = 0
        · simp only [if_pos h4, h1, h2, h3, h4, and_self, if_true]; exact Ev.const rfl
        · simp only [if_neg h4, h4, and_false, if_false]; exact Ev.const rfl
      · simp only [if_pos h1, if_pos h2, if_neg h3, h3, false_and, and_false, if_false]; exact Ev.const rfl
    · simp only [if_pos h1, if_neg h2, h2, false_and, and_false, if_false]; exact Ev.const rfl
  · simp only [if_neg h1, h1, false_and, if_false]; exact Ev.const rfl
theorem parse_of (s lo hi : ByteArray) (ok : Bool) (hc : strings_Cut.f s (⟨#[46, 46]⟩ : ByteArray) = some (lo, hi, ok)) (hl : lo.size ≤ 70368744177664) (hh : hi.size ≤ 70368744177664) :
    Ev (fun k => span_Parse.f k s) (parV lo hi ok) := by
  refine Ev.congr (fun k => by rw [span_Parse.f, hc, Option.bind_some]) ?_
  unfold parV
  by_cases h : hi.toList = ([42] : List UInt8)
  · have e : (hi.toList == ([42] : List UInt8)) = true := by simpa using h
    simp only [if_pos h, e]
    exact parse_j0 lo ⟨#[]⟩ ok true hl (by show (0 : Nat) ≤ _; omega)
  · have e : (hi.toList == ([42] : List UInt8)) = false := by simpa using h
    simp only [if_neg h, e, if_neg (show ¬ (false = true) by decide)]
    exact parse_j0 lo hi ok false hl hh
end Go.Proofs.YtodmbjbfigifnaaGreatDoor.Pure
set_option linter.unusedVariables false
set_option linter.unusedSimpArgs false
namespace Go.Proofs.YtodmbjbfigifnaaGreatDoor.Pure
open Go.RowKit Go.Proofs.YtodmbjbfigifnaaGreatDoor.PAll Go.Proofs.YtodmbjbfigifnaaGreatDoorW.PrintWords Go.Proofs.YtodmbjbfigifnaaGreatDoorW.PrintLast Go.Proofs.YtodmbjbfigifnaaGreatDoorW.PrintMore
/-- The pieces. -/
def piecesL (c : UInt8) : List UInt8 → List (List UInt8)
  | [] => [[]]
  | b :: l => if b = c then [] :: piecesL c l else match piecesL c l with
    | [] => [[b]]
    | p :: ps => (b :: p) :: ps
theorem piecesL_ne (c : UInt8) (l : List UInt8) : piecesL c l ≠ [] := by
  cases l with
  | nil => simp [piecesL]
  | cons b l =>
    unfold piecesL
    split
    · simp
    · split <;> simp
theorem piecesL_cons_ne {c b : UInt8} {l p : List UInt8} {ps : List (List UInt8)} (h : b ≠ c) (hp : piecesL c l = p :: ps) : piecesL c (b :: l) = (b :: p) :: ps := by
  unfold piecesL
  rw [if_neg h, hp]
theorem piecesL_cons_eq (c : UInt8) (l : List UInt8) : piecesL c (c :: l) = [] :: piecesL c l := by
  rw [piecesL, if_pos rfl]
theorem piecesL_none {c : UInt8} : ∀ {l : List UInt8}, c ∉ l → piecesL c l = [l]
  | [], _ => rfl
  | b :: l, h => by
    rw [List.mem_cons, not_or] at h
    exact piecesL_cons_ne (Ne.symm h.1) (piecesL_none h.2)
theorem piecesL_app {c : UInt8} : ∀ {p : List UInt8} (l : List UInt8), c ∉ p → piecesL c (p ++ c :: l) = p :: piecesL c l
  | [], l, _ => piecesL_cons_eq c l
  | b :: p, l, h => by
    rw [List.mem_cons, not_or] at h
    exact piecesL_cons_ne (Ne.symm h.1) (piecesL_app l h.2)
theorem pieces_len (c : UInt8) : ∀ (l : List UInt8), (piecesL c l).length ≤ l.length + 1
  | [] => by simp [piecesL]
  | b :: l => by
    have ih := pieces_len c l
    unfold piecesL
    split
    · simp; omega
    · split
      · simp
      · rename_i h; rw [h] at ih; simp at ih ⊢; omega
theorem pieces_le {c : UInt8} : ∀ (l : List UInt8), ∀ p ∈ piecesL c l, p.length ≤ l.length
  | [], p, hp => by simp [piecesL] at hp; subst hp; simp
  | b :: l, p, hp => by
    have ih := pieces_le (c := c) l
    cases hq : piecesL c l with
    | nil => exact absurd hq (piecesL_ne c l)
    | cons q ps =>
      by_cases h : b = c
      · subst h
        rw [piecesL_cons_eq, List.mem_cons] at hp
        rcases hp with rfl | hp
        · simp
        · have := ih p hp; simp; omega
      · rw [piecesL_cons_ne h hq, List.mem_cons] at hp
        rw [hq] at ih
        rcases hp with rfl | hp
        · have := ih q (by simp); simp; omega
        · have := ih p (List.mem_cons_of_mem _ hp); simp; omega
theorem splitK_pieces (c : UInt8) : ∀ (n : Nat) (l : List UInt8), l.count c = n → Lib.splitK [c] 0 n l = piecesL c l
  | 0, l, h => by
    rw [piecesL_none (List.count_eq_zero.1 h)]; rfl
  | n + 1, l, h => by
    have hpos : 0 < Lib.count l [c] := by rw [Lib.count_one]; omega
    obtain ⟨i, hi⟩ := Lib.index_of_count hpos
    have hi' := hi
    rw [Lib.index_one] at hi'
    obtain ⟨h1, h2⟩ := Lib.indexByte_some hi'
    have hlt := (List.getElem?_eq_some_iff.1 h1).1
    have hspl : l = l.take i ++ c :: l.drop (i + 1) := by
      have := (List.getElem?_eq_some_iff.1 h1).2
      rw [← this, List.getElem_cons_drop, List.take_append_drop]
    have hfree : c ∉ l.take i := by
      intro hm
      obtain ⟨k, hk, he⟩ := List.getElem_of_mem hm
      rw [List.length_take] at hk
      apply h2 k (by omega)
      rw [List.getElem_take] at he
      rw [List.getElem?_eq_getElem (by omega)]
      exact congrArg some he
    have hm : ¬ (Lib.index l [c] == -1) = true := fun e => by have := beq_iff_eq.1 e; omega
    have hcnt : (l.drop (i + 1)).count c = n := by
      rw [hspl, List.count_append, List.count_cons_self, List.count_eq_zero.2 hfree] at h
      omega
    unfold Lib.splitK
    rw [if_neg hm, show (Lib.index l [c]).toNat = i by omega, Nat.add_zero, List.length_singleton, splitK_pieces c n _ hcnt]
    conv => rhs; rw [hspl]
    rw [piecesL_app _ hfree]
theorem split_pieces (s : ByteArray) (c : UInt8) : (Lib.splitB ⟨#[c]⟩ 0 (Lib.countB s ⟨#[c]⟩) s).map (·.data.toList) = piecesL c s.data.toList := by
  rw [Lib.splitB_data]
  exact splitK_pieces c _ _ (Lib.count_one c _).symm
/-- The pieces, as_ texts. -/
def piecesB (s : ByteArray) (c : UInt8) : List ByteArray := (piecesL c s.data.toList).map fun l => ⟨l.toArray⟩
theorem toB (x : ByteArray) : (⟨x.data.toList.toArray⟩ : ByteArray) = x := by
  obtain ⟨⟨x⟩⟩ := x; rfl
theorem split_eq (s : ByteArray) (c : UInt8) : Lib.splitB ⟨#[c]⟩ 0 (Lib.countB s ⟨#[c]⟩) s = piecesB s c := by
  unfold piecesB
  rw [← split_pieces, List.map_map]
  conv => lhs; rw [← List.map_id (Lib.splitB ⟨#[c]⟩ 0 (Lib.countB s ⟨#[c]⟩) s)]
  exact List.map_congr_left fun x _ => (toB x).symm
end Go.Proofs.YtodmbjbfigifnaaGreatDoor.Pure
