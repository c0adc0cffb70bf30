-- Written by this session's own programs; what the law does not lean on is left out. Lean checks it.
import Derived.Shelf.Strings.Builder1
import Derived.Shelf.Strings.Builder2
import Derived.Shelf.Strings.OnBuilder
import Derived.Shelf.Utf8.RuneCount
import Derived.Shelf.Strconv.Atoi
import Derived.Shelf.Strconv.Itoa0
import Derived.Shelf.Strconv.Itoa1
import Derived.Shelf.LaysM
import Derived.Shelf.Strconv.Itoa2
import Derived.Shelf.Strconv.Itoa3
import Derived.Shelf.Strconv.AtoiErrFast
import Derived.Shelf.Strconv.ParseIntEmpty
import Derived.Shelf.Strconv.AtoiFail
import Derived.Shelf.Strconv.Clone
import Derived.Shelf.Strconv.SyntaxError
import Derived.Shelf.LaysC
import Derived.Shelf.Strconv.ToError
import Derived.Shelf.Strconv.Lower
import Derived.Shelf.Strconv.ParseUint10
import Derived.Shelf.Strconv.ParseUint10Empty
import Derived.Shelf.Strconv.ParseUint10Any
import Derived.Shelf.Strconv.ParseInt10
import Derived.Shelf.Strconv.AtoiLong
import Derived.Shelf.Strconv.AtoiInnerAll
import Derived.Shelf.Strconv.RangeError
import Derived.Shelf.Strconv.ToErrorRange
import Derived.Shelf.Strconv.AtoiAll
import Derived.Shelf.Strconv.ErrVarAll
import Derived.Shelf.Strings.Search1
import Derived.Shelf.Strings.Search2
import Derived.Shelf.Strings.Search3
import Derived.Shelf.Strings.Cut
import Derived.Shelf.Strings.Count
import Derived.Shelf.Strings.Shaped
import Derived.Shelf.Strings.Prefix
import Derived.Shelf.Strings.Split
import Derived.Shelf.Strings.SplitShaped
import Derived.Shelf.Unicode.Decode
import Derived.Shelf.Strings.RuneCount
import Derived.Shelf.Strings.Explode
import Derived.Shelf.Unicode.DecodeSlow
import Derived.Shelf.Unicode.DecodeAny
import Derived.Test.YtejgenhmhahgeaaGreatDoorProg
namespace Go.Proofs
open Go.Shelf
open Go.RowKit in
open Go.RowKit in
open Go.RowKit in
open Go.RowKit in
open Go.RowKit in
def Tryz.lays156_ren : Go.Shelf.Ren := ⟨fun | 156 => 44 | 165 => 61 | 166 => 62 | 169 => 63 | 240 => 81 | 241 => 82 | 276 => 92 | 277 => 93 | n => n, fun | 31 => 50 | 9 => 9 | 3 => 3 | 4 => 4 | 0 => 0 | 20 => 20 | 72 => 83 | 76 => 55 | 70 => 81 | 37 => 75 | 75 => 54 | 127 => 101 | 164 => 114 | 5 => 5 | 80 => 85 | n => n, fun | n => n⟩
theorem Tryz.lays156 : Go.Proofs.Lays.n156 Tryz.prog Tryz.lays156_ren := {
 mixed := by kernel_rfl
 f156 := Tryz.func44.trans (congrArg some (by kernel_rfl))
 f165 := Tryz.func61.trans (congrArg some (by kernel_rfl))
 f166 := Tryz.func62.trans (congrArg some (by kernel_rfl))
 f169 := Tryz.func63.trans (congrArg some (by kernel_rfl))
 f240 := Tryz.func81.trans (congrArg some (by kernel_rfl))
 f241 := Tryz.func82.trans (congrArg some (by kernel_rfl))
 f276 := Tryz.func92.trans (congrArg some (by kernel_rfl))
 f277 := Tryz.func93.trans (congrArg some (by kernel_rfl))
 t0 := Tryz.underlying0
 a0 := Tryz.isAgg0
 z0 := Tryz.sizeOf0
 v0 := Tryz.zeroValue0
 t3 := Tryz.underlying3
 a3 := Tryz.isAgg3
 z3 := Tryz.sizeOf3
 v3 := Tryz.zeroValue3
 t4 := Tryz.underlying4
 a4 := Tryz.isAgg4
 z4 := Tryz.sizeOf4
 v4 := Tryz.zeroValue4
 t9 := Tryz.underlying9
 a9 := Tryz.isAgg9
 z9 := Tryz.sizeOf9
 v9 := Tryz.zeroValue9
 t20 := Tryz.underlying20
 a20 := Tryz.isAgg20
 z20 := Tryz.sizeOf20
 v20 := Tryz.zeroValue20
 t31 := Tryz.underlying50
 a31 := Tryz.isAgg50
 z31 := Tryz.sizeOf50
 v31 := Tryz.zeroValue50
 t37 := Tryz.underlying75
 a37 := Tryz.isAgg75
 z37 := Tryz.sizeOf75
 v37 := Tryz.zeroValue75
 t70 := Tryz.underlying81
 a70 := Tryz.isAgg81
 z70 := Tryz.sizeOf81
 v70 := Tryz.zeroValue81
 t72 := Tryz.underlying83
 a72 := Tryz.isAgg83
 z72 := Tryz.sizeOf83
 v72 := Tryz.zeroValue83
 t75 := Tryz.underlying54
 a75 := Tryz.isAgg54
 z75 := Tryz.sizeOf54
 v75 := Tryz.zeroValue54
 t76 := Tryz.underlying55
 a76 := Tryz.isAgg55
 z76 := Tryz.sizeOf55
 v76 := Tryz.zeroValue55
 t127 := Tryz.underlying101
 a127 := Tryz.isAgg101
 z127 := Tryz.sizeOf101
 v127 := Tryz.zeroValue101
 t164 := Tryz.underlying114
 a164 := Tryz.isAgg114
 z164 := Tryz.sizeOf114
 v164 := Tryz.zeroValue114 }
theorem Tryz.Builder_Extra_156 : Builder.Extra Tryz.prog Tryz.lays156_ren := {
 sizeBuilder := by kernel_rfl
 liesBuilder := by kernel_rfl
 t5 := Tryz.underlying5
 a5 := Tryz.isAgg5
 z5 := Tryz.sizeOf5
 v5 := Tryz.zeroValue5
 infoByte := by kernel_rfl
 cellsByte := by kernel_rfl
 sizeByte := by kernel_rfl
 neB5 := by decide }
open Go.RowKit in
theorem Tryz.strings_Join_none (a : Option Addr) (c : Nat) (sep : ByteArray) (w : World) :
  Calls Tryz.prog 44 #[.slice a 0 c, .string sep] w fun e w' => e = .returned (.string ⟨#[]⟩) ∧ w' = w := Any.strings_Join_none Tryz.lays156 Tryz.Builder_Extra_156 a c sep w
open Go.RowKit in
theorem Tryz.strings_Join (bk o c : Nat) (xs : List ByteArray) (sep : ByteArray) (w : World) (hcells : ∀ (j : Nat) x, xs[j]? = some x → w.cell? ⟨bk, o + j, none⟩ = some (.string x)) (hbk : bk < w.heap.size) (hN : xs.length ≤ 140737488355328) (hcap : xs.length ≤ c) (hlen : (Lib.join (xs.map (·.data.toList)) sep.data.toList).length ≤ 140737488355328) :
  Calls Tryz.prog 44 #[.slice (some ⟨bk, o, none⟩) xs.length c, .string sep] w fun e w' => e = .returned (.string ⟨(Lib.join (xs.map (·.data.toList)) sep.data.toList).toArray⟩) ∧ Below w.heap.size w w' := Any.strings_Join Tryz.lays156 Tryz.Builder_Extra_156 bk o c xs sep w hcells hbk hN hcap hlen
open Go.RowKit in
open Go.RowKit in
def Tryz.lays172_ren : Go.Shelf.Ren := ⟨fun | 172 => 28 | 244 => 41 | 245 => 42 | 247 => 55 | 279 => 56 | 280 => 57 | 281 => 58 | 282 => 59 | 287 => 77 | 316 => 78 | 171 => 43 | 205 => 79 | 321 => 86 | 322 => 87 | 243 => 60 | 246 => 80 | 283 => 88 | 284 => 89 | 285 => 90 | 286 => 91 | 129 => 95 | 317 => 94 | 318 => 96 | 319 => 97 | 320 => 98 | 337 => 99 | 338 => 100 | n => n, fun | 9 => 9 | 3 => 3 | 75 => 54 | 76 => 55 | 4 => 4 | 5 => 5 | 167 => 74 | 37 => 75 | 0 => 0 | 85 => 76 | 2 => 2 | 168 => 78 | 53 => 93 | 175 => 94 | 46 => 90 | 210 => 98 | 127 => 101 | 145 => 108 | 143 => 106 | 21 => 21 | 171 => 109 | 173 => 112 | 212 => 122 | 51 => 102 | 20 => 20 | 213 => 123 | 232 => 126 | 233 => 127 | 80 => 85 | n => n, fun | 15 => 1 | 16 => 2 | 17 => 5 | 18 => 6 | 19 => 7 | n => n⟩
open Go.RowKit in
open Go.Lib in
open Go.Lib in
open Go.Lib in
open Go.Lib in
open Go.RowKit Go.Sort Go.Lib in
def Tryz.laysM246_ren : Go.Shelf.Ren := ⟨fun | 246 => 80 | 283 => 88 | 284 => 89 | 285 => 90 | 286 => 91 | 129 => 95 | 317 => 94 | 318 => 96 | 319 => 97 | 320 => 98 | 337 => 99 | 338 => 100 | n => n, fun | 2 => 2 | 3 => 3 | 9 => 9 | 4 => 4 | 171 => 109 | 0 => 0 | 53 => 93 | 37 => 75 | 5 => 5 | 173 => 112 | 212 => 122 | 51 => 102 | 20 => 20 | 213 => 123 | 46 => 90 | 232 => 126 | 233 => 127 | n => n, fun | 17 => 5 | 18 => 6 | 19 => 7 | n => n⟩
open Go.RowKit Go.Sort Go.Lib in
open Go.RowKit Go.Sort Go.Lib in
def Tryz.laysM243_ren : Go.Shelf.Ren := ⟨fun | 243 => 60 | 246 => 80 | 283 => 88 | 284 => 89 | 285 => 90 | 286 => 91 | 129 => 95 | 317 => 94 | 318 => 96 | 319 => 97 | 320 => 98 | 337 => 99 | 338 => 100 | n => n, fun | 3 => 3 | 9 => 9 | 2 => 2 | 4 => 4 | 171 => 109 | 0 => 0 | 53 => 93 | 37 => 75 | 5 => 5 | 173 => 112 | 212 => 122 | 51 => 102 | 20 => 20 | 213 => 123 | 46 => 90 | 232 => 126 | 233 => 127 | n => n, fun | 17 => 5 | 18 => 6 | 19 => 7 | n => n⟩
open Go.RowKit Go.Sort Go.Lib in
open Go.RowKit Go.Sort Go.Lib in
def Tryz.laysM171_ren : Go.Shelf.Ren := ⟨fun | 171 => 43 | 243 => 60 | 246 => 80 | 283 => 88 | 284 => 89 | 285 => 90 | 286 => 91 | 129 => 95 | 317 => 94 | 318 => 96 | 319 => 97 | 320 => 98 | 337 => 99 | 338 => 100 | n => n, fun | 3 => 3 | 9 => 9 | 2 => 2 | 4 => 4 | 171 => 109 | 0 => 0 | 53 => 93 | 37 => 75 | 5 => 5 | 173 => 112 | 212 => 122 | 51 => 102 | 20 => 20 | 213 => 123 | 46 => 90 | 232 => 126 | 233 => 127 | n => n, fun | 17 => 5 | 18 => 6 | 19 => 7 | n => n⟩
theorem Tryz.laysM171 : Go.Proofs.LaysM.n171 Tryz.prog Tryz.laysM171_ren := {
 mixed := by kernel_rfl
 f129 := Tryz.func95.trans (congrArg some (by kernel_rfl))
 f171 := Tryz.func43.trans (congrArg some (by kernel_rfl))
 f243 := Tryz.func60.trans (congrArg some (by kernel_rfl))
 f246 := Tryz.func80.trans (congrArg some (by kernel_rfl))
 f283 := Tryz.func88.trans (congrArg some (by kernel_rfl))
 f284 := Tryz.func89.trans (congrArg some (by kernel_rfl))
 f285 := Tryz.func90.trans (congrArg some (by kernel_rfl))
 f286 := Tryz.func91.trans (congrArg some (by kernel_rfl))
 f317 := Tryz.func94.trans (congrArg some (by kernel_rfl))
 f318 := Tryz.func96.trans (congrArg some (by kernel_rfl))
 f319 := Tryz.func97.trans (congrArg some (by kernel_rfl))
 f320 := Tryz.func98.trans (congrArg some (by kernel_rfl))
 f337 := Tryz.func99.trans (congrArg some (by kernel_rfl))
 f338 := Tryz.func100.trans (congrArg some (by kernel_rfl))
 t0 := Tryz.underlying0
 a0 := Tryz.isAgg0
 z0 := Tryz.sizeOf0
 v0 := Tryz.zeroValue0
 t2 := Tryz.underlying2
 a2 := Tryz.isAgg2
 z2 := Tryz.sizeOf2
 v2 := Tryz.zeroValue2
 t3 := Tryz.underlying3
 a3 := Tryz.isAgg3
 z3 := Tryz.sizeOf3
 v3 := Tryz.zeroValue3
 t4 := Tryz.underlying4
 a4 := Tryz.isAgg4
 z4 := Tryz.sizeOf4
 v4 := Tryz.zeroValue4
 t5 := Tryz.underlying5
 a5 := Tryz.isAgg5
 z5 := Tryz.sizeOf5
 v5 := Tryz.zeroValue5
 t9 := Tryz.underlying9
 a9 := Tryz.isAgg9
 z9 := Tryz.sizeOf9
 v9 := Tryz.zeroValue9
 t20 := Tryz.underlying20
 a20 := Tryz.isAgg20
 z20 := Tryz.sizeOf20
 v20 := Tryz.zeroValue20
 t37 := Tryz.underlying75
 a37 := Tryz.isAgg75
 z37 := Tryz.sizeOf75
 v37 := Tryz.zeroValue75
 t46 := Tryz.underlying90
 a46 := Tryz.isAgg90
 z46 := Tryz.sizeOf90
 v46 := Tryz.zeroValue90
 t51 := Tryz.underlying102
 a51 := Tryz.isAgg102
 z51 := Tryz.sizeOf102
 v51 := Tryz.zeroValue102
 t53 := Tryz.underlying93
 a53 := Tryz.isAgg93
 z53 := Tryz.sizeOf93
 v53 := Tryz.zeroValue93
 t171 := Tryz.underlying109
 a171 := Tryz.isAgg109
 z171 := Tryz.sizeOf109
 v171 := Tryz.zeroValue109
 t173 := Tryz.underlying112
 a173 := Tryz.isAgg112
 z173 := Tryz.sizeOf112
 v173 := Tryz.zeroValue112
 t212 := Tryz.underlying122
 a212 := Tryz.isAgg122
 z212 := Tryz.sizeOf122
 v212 := Tryz.zeroValue122
 t213 := Tryz.underlying123
 a213 := Tryz.isAgg123
 z213 := Tryz.sizeOf123
 t232 := Tryz.underlying126
 a232 := Tryz.isAgg126
 z232 := Tryz.sizeOf126
 v232 := Tryz.zeroValue126
 t233 := Tryz.underlying127
 a233 := Tryz.isAgg127
 z233 := Tryz.sizeOf127
 v233 := Tryz.zeroValue127
 g17 := by kernel_rfl
 g18 := by kernel_rfl
 g19 := by kernel_rfl
 i0 := by kernel_rfl
 i2 := by kernel_rfl
 i3 := by kernel_rfl
 i4 := by kernel_rfl
 i5 := by kernel_rfl
 i9 := by kernel_rfl
 i20 := by kernel_rfl
 i37 := by kernel_rfl
 i46 := by kernel_rfl
 i51 := by kernel_rfl
 i53 := by kernel_rfl
 i171 := by kernel_rfl
 i173 := by kernel_rfl
 i212 := by kernel_rfl
 i232 := by kernel_rfl
 i233 := by kernel_rfl
 m17 := by kernel_rfl
 m18 := by kernel_rfl
 m19 := by kernel_rfl }
open Go.RowKit Go.Sort Go.Lib in
theorem Tryz.strconv_Itoa (n : Int) (h0 : -9223372036854775808 ≤ n) (h1 : n ≤ 9223372036854775807) (w : World) (htab : Lib.TabIs Tryz.prog w "internal/strconv.uint64pow10" .u64 Lib.pow10Tab) :
  Calls Tryz.prog 43 #[.int .i64 n] w fun e w' => e = .returned (.string ⟨(Lib.itoa n).toArray⟩) ∧ ∃ k os, w' = grow (w.drewN k) os := Any.strconv_Itoa Tryz.laysM171 n h0 h1 w htab
open Go.RowKit Go.Sort Go.Lib in
open Go.RowKit in
open Go.RowKit in
open Go.RowKit in
open Go.RowKit in
open Go.RowKit in
open Go.RowKit in
open Go.RowKit in
open Go.RowKit in
open Go.RowKit in
open Go.RowKit in
open Go.RowKit in
open Go.RowKit in
open Go.RowKit in
open Go.RowKit in
open Go.RowKit in
def Tryz.laysC172_ren : Go.Shelf.Ren := ⟨fun | 172 => 28 | 244 => 41 | 245 => 42 | 247 => 55 | 279 => 56 | 280 => 57 | 281 => 58 | 282 => 59 | 287 => 77 | 316 => 78 | 171 => 43 | 205 => 79 | 321 => 86 | 322 => 87 | 243 => 60 | 246 => 80 | 283 => 88 | 284 => 89 | 285 => 90 | 286 => 91 | 129 => 95 | 317 => 94 | 318 => 96 | 319 => 97 | 320 => 98 | 337 => 99 | 338 => 100 | n => n, fun | 9 => 9 | 3 => 3 | 75 => 54 | 76 => 55 | 4 => 4 | 5 => 5 | 167 => 74 | 37 => 75 | 0 => 0 | 85 => 76 | 2 => 2 | 168 => 78 | 53 => 93 | 175 => 94 | 46 => 90 | 210 => 98 | 127 => 101 | 145 => 108 | 143 => 106 | 21 => 21 | 171 => 109 | 173 => 112 | 212 => 122 | 51 => 102 | 20 => 20 | 213 => 123 | 232 => 126 | 233 => 127 | 80 => 85 | n => n, fun | 15 => 1 | 16 => 2 | 17 => 5 | 18 => 6 | 19 => 7 | n => n⟩
theorem Tryz.laysC172 : Go.Proofs.LaysC.n172 Tryz.prog Tryz.laysC172_ren := {
 mixed := by kernel_rfl
 f129 := Tryz.func95.trans (congrArg some (by kernel_rfl))
 f171 := Tryz.func43.trans (congrArg some (by kernel_rfl))
 f172 := Tryz.func28.trans (congrArg some (by kernel_rfl))
 f205 := Tryz.func79.trans (congrArg some (by kernel_rfl))
 f243 := Tryz.func60.trans (congrArg some (by kernel_rfl))
 f244 := Tryz.func41.trans (congrArg some (by kernel_rfl))
 f245 := Tryz.func42.trans (congrArg some (by kernel_rfl))
 f246 := Tryz.func80.trans (congrArg some (by kernel_rfl))
 f247 := Tryz.func55.trans (congrArg some (by kernel_rfl))
 f279 := Tryz.func56.trans (congrArg some (by kernel_rfl))
 f280 := Tryz.func57.trans (congrArg some (by kernel_rfl))
 f281 := Tryz.func58.trans (congrArg some (by kernel_rfl))
 f282 := Tryz.func59.trans (congrArg some (by kernel_rfl))
 f283 := Tryz.func88.trans (congrArg some (by kernel_rfl))
 f284 := Tryz.func89.trans (congrArg some (by kernel_rfl))
 f285 := Tryz.func90.trans (congrArg some (by kernel_rfl))
 f286 := Tryz.func91.trans (congrArg some (by kernel_rfl))
 f287 := Tryz.func77.trans (congrArg some (by kernel_rfl))
 f316 := Tryz.func78.trans (congrArg some (by kernel_rfl))
 f317 := Tryz.func94.trans (congrArg some (by kernel_rfl))
 f318 := Tryz.func96.trans (congrArg some (by kernel_rfl))
 f319 := Tryz.func97.trans (congrArg some (by kernel_rfl))
 f320 := Tryz.func98.trans (congrArg some (by kernel_rfl))
 f321 := Tryz.func86.trans (congrArg some (by kernel_rfl))
 f322 := Tryz.func87.trans (congrArg some (by kernel_rfl))
 f337 := Tryz.func99.trans (congrArg some (by kernel_rfl))
 f338 := Tryz.func100.trans (congrArg some (by kernel_rfl))
 t0 := Tryz.underlying0
 a0 := Tryz.isAgg0
 z0 := Tryz.sizeOf0
 v0 := Tryz.zeroValue0
 t2 := Tryz.underlying2
 a2 := Tryz.isAgg2
 z2 := Tryz.sizeOf2
 v2 := Tryz.zeroValue2
 t3 := Tryz.underlying3
 a3 := Tryz.isAgg3
 z3 := Tryz.sizeOf3
 v3 := Tryz.zeroValue3
 t4 := Tryz.underlying4
 a4 := Tryz.isAgg4
 z4 := Tryz.sizeOf4
 v4 := Tryz.zeroValue4
 t5 := Tryz.underlying5
 a5 := Tryz.isAgg5
 z5 := Tryz.sizeOf5
 v5 := Tryz.zeroValue5
 t9 := Tryz.underlying9
 a9 := Tryz.isAgg9
 z9 := Tryz.sizeOf9
 v9 := Tryz.zeroValue9
 t20 := Tryz.underlying20
 a20 := Tryz.isAgg20
 z20 := Tryz.sizeOf20
 v20 := Tryz.zeroValue20
 t21 := Tryz.underlying21
 a21 := Tryz.isAgg21
 z21 := Tryz.sizeOf21
 v21 := Tryz.zeroValue21
 t37 := Tryz.underlying75
 a37 := Tryz.isAgg75
 z37 := Tryz.sizeOf75
 v37 := Tryz.zeroValue75
 t46 := Tryz.underlying90
 a46 := Tryz.isAgg90
 z46 := Tryz.sizeOf90
 v46 := Tryz.zeroValue90
 t51 := Tryz.underlying102
 a51 := Tryz.isAgg102
 z51 := Tryz.sizeOf102
 v51 := Tryz.zeroValue102
 t53 := Tryz.underlying93
 a53 := Tryz.isAgg93
 z53 := Tryz.sizeOf93
 v53 := Tryz.zeroValue93
 t75 := Tryz.underlying54
 a75 := Tryz.isAgg54
 z75 := Tryz.sizeOf54
 v75 := Tryz.zeroValue54
 t76 := Tryz.underlying55
 a76 := Tryz.isAgg55
 z76 := Tryz.sizeOf55
 v76 := Tryz.zeroValue55
 t85 := Tryz.underlying76
 a85 := Tryz.isAgg76
 z85 := Tryz.sizeOf76
 v85 := Tryz.zeroValue76
 t127 := Tryz.underlying101
 a127 := Tryz.isAgg101
 z127 := Tryz.sizeOf101
 v127 := Tryz.zeroValue101
 t143 := Tryz.underlying106
 a143 := Tryz.isAgg106
 z143 := Tryz.sizeOf106
 v143 := Tryz.zeroValue106
 t145 := Tryz.underlying108
 a145 := Tryz.isAgg108
 z145 := Tryz.sizeOf108
 v145 := Tryz.zeroValue108
 t167 := Tryz.underlying74
 a167 := Tryz.isAgg74
 z167 := Tryz.sizeOf74
 v167 := Tryz.zeroValue74
 t168 := Tryz.underlying78
 a168 := Tryz.isAgg78
 z168 := Tryz.sizeOf78
 v168 := Tryz.zeroValue78
 t171 := Tryz.underlying109
 a171 := Tryz.isAgg109
 z171 := Tryz.sizeOf109
 v171 := Tryz.zeroValue109
 t173 := Tryz.underlying112
 a173 := Tryz.isAgg112
 z173 := Tryz.sizeOf112
 v173 := Tryz.zeroValue112
 t175 := Tryz.underlying94
 a175 := Tryz.isAgg94
 z175 := Tryz.sizeOf94
 v175 := Tryz.zeroValue94
 t210 := Tryz.underlying98
 a210 := Tryz.isAgg98
 z210 := Tryz.sizeOf98
 v210 := Tryz.zeroValue98
 t212 := Tryz.underlying122
 a212 := Tryz.isAgg122
 z212 := Tryz.sizeOf122
 v212 := Tryz.zeroValue122
 t213 := Tryz.underlying123
 a213 := Tryz.isAgg123
 z213 := Tryz.sizeOf123
 t232 := Tryz.underlying126
 a232 := Tryz.isAgg126
 z232 := Tryz.sizeOf126
 v232 := Tryz.zeroValue126
 t233 := Tryz.underlying127
 a233 := Tryz.isAgg127
 z233 := Tryz.sizeOf127
 v233 := Tryz.zeroValue127
 g15 := by kernel_rfl
 g16 := by kernel_rfl
 g17 := by kernel_rfl
 g18 := by kernel_rfl
 g19 := by kernel_rfl
 t80 := Tryz.underlying85
 a80 := Tryz.isAgg85
 z80 := Tryz.sizeOf85
 v80 := Tryz.zeroValue85
 i0 := by kernel_rfl
 i2 := by kernel_rfl
 i3 := by kernel_rfl
 i4 := by kernel_rfl
 i5 := by kernel_rfl
 i9 := by kernel_rfl
 i20 := by kernel_rfl
 i21 := by kernel_rfl
 i37 := by kernel_rfl
 i46 := by kernel_rfl
 i51 := by kernel_rfl
 i53 := by kernel_rfl
 i75 := by kernel_rfl
 i76 := by kernel_rfl
 i80 := by kernel_rfl
 i85 := by kernel_rfl
 i127 := by kernel_rfl
 i143 := by kernel_rfl
 i145 := by kernel_rfl
 i167 := by kernel_rfl
 i168 := by kernel_rfl
 i171 := by kernel_rfl
 i173 := by kernel_rfl
 i175 := by kernel_rfl
 i210 := by kernel_rfl
 i212 := by kernel_rfl
 i232 := by kernel_rfl
 i233 := by kernel_rfl
 m15 := by kernel_rfl
 m16 := by kernel_rfl
 m17 := by kernel_rfl
 m18 := by kernel_rfl
 m19 := by kernel_rfl
 c0 := by kernel_rfl
 c2 := by kernel_rfl
 c3 := by kernel_rfl
 c4 := by kernel_rfl
 c5 := by kernel_rfl
 c9 := by kernel_rfl
 c20 := by kernel_rfl
 c21 := by kernel_rfl
 c37 := by kernel_rfl
 c46 := by kernel_rfl
 c51 := by kernel_rfl
 c53 := by kernel_rfl
 c75 := by kernel_rfl
 c76 := by kernel_rfl
 c80 := by kernel_rfl
 c85 := by kernel_rfl
 c127 := by kernel_rfl
 c143 := by kernel_rfl
 c145 := by kernel_rfl
 c167 := by kernel_rfl
 c168 := by kernel_rfl
 c171 := by kernel_rfl
 c173 := by kernel_rfl
 c175 := by kernel_rfl
 c210 := by kernel_rfl
 c212 := by kernel_rfl
 c213 := by kernel_rfl
 c232 := by kernel_rfl
 c233 := by kernel_rfl }
open Go.RowKit in
theorem Tryz.strconv_Atoi_ok (s : ByteArray) (hmax : s.size ≤ 9223372036854775806) (v : Int) (h : Lib.atoiAll s.data.toList = .ok v) (w : World) :
  Calls Tryz.prog 28 #[.string s] w fun e w' => e = .returned (.tuple #[.int .i64 v, .nilIface]) ∧ (w' = w ∨ ∃ t, w' = Lib.bytesWorld w 5 t) := Any.strconv_Atoi_ok Tryz.laysC172 s hmax v h w
open Go.RowKit in
open Go.RowKit Go.Lib in
open Go.RowKit Go.Lib in
open Go.RowKit Go.Lib in
def Tryz.lays219_ren : Go.Shelf.Ren := ⟨fun | 219 => 50 | 217 => 70 | 225 => 71 | 224 => 72 | 267 => 73 | 266 => 83 | 314 => 84 | n => n, fun | 9 => 9 | 3 => 3 | 4 => 4 | 5 => 5 | 46 => 90 | 146 => 103 | 51 => 102 | n => n, fun | 1 => 0 | n => n⟩
open Go.RowKit Go.Lib in
open Go.RowKit Go.Lib in
open Go.RowKit Go.Lib in
open Go.RowKit Go.Lib in
open Go.RowKit Go.Lib in
def Tryz.lays145_ren : Go.Shelf.Ren := ⟨fun | 145 => 25 | 220 => 38 | 219 => 50 | 217 => 70 | 225 => 71 | 224 => 72 | 267 => 73 | 266 => 83 | 314 => 84 | n => n, fun | 9 => 9 | 4 => 4 | 59 => 48 | 3 => 3 | 5 => 5 | 46 => 90 | 146 => 103 | 51 => 102 | n => n, fun | 1 => 0 | n => n⟩
theorem Tryz.lays145 : Go.Proofs.Lays.n145 Tryz.prog Tryz.lays145_ren := {
 mixed := by kernel_rfl
 f145 := Tryz.func25.trans (congrArg some (by kernel_rfl))
 f217 := Tryz.func70.trans (congrArg some (by kernel_rfl))
 f219 := Tryz.func50.trans (congrArg some (by kernel_rfl))
 f220 := Tryz.func38.trans (congrArg some (by kernel_rfl))
 f224 := Tryz.func72.trans (congrArg some (by kernel_rfl))
 f225 := Tryz.func71.trans (congrArg some (by kernel_rfl))
 f266 := Tryz.func83.trans (congrArg some (by kernel_rfl))
 f267 := Tryz.func73.trans (congrArg some (by kernel_rfl))
 f314 := Tryz.func84.trans (congrArg some (by kernel_rfl))
 t3 := Tryz.underlying3
 a3 := Tryz.isAgg3
 z3 := Tryz.sizeOf3
 v3 := Tryz.zeroValue3
 t4 := Tryz.underlying4
 a4 := Tryz.isAgg4
 z4 := Tryz.sizeOf4
 v4 := Tryz.zeroValue4
 t5 := Tryz.underlying5
 a5 := Tryz.isAgg5
 z5 := Tryz.sizeOf5
 v5 := Tryz.zeroValue5
 t9 := Tryz.underlying9
 a9 := Tryz.isAgg9
 z9 := Tryz.sizeOf9
 v9 := Tryz.zeroValue9
 t46 := Tryz.underlying90
 a46 := Tryz.isAgg90
 z46 := Tryz.sizeOf90
 v46 := Tryz.zeroValue90
 t51 := Tryz.underlying102
 a51 := Tryz.isAgg102
 z51 := Tryz.sizeOf102
 v51 := Tryz.zeroValue102
 t59 := Tryz.underlying48
 a59 := Tryz.isAgg48
 z59 := Tryz.sizeOf48
 v59 := Tryz.zeroValue48
 t146 := Tryz.underlying103
 a146 := Tryz.isAgg103
 z146 := Tryz.sizeOf103
 v146 := Tryz.zeroValue103
 g1 := by kernel_rfl }
open Go.RowKit Go.Lib in
theorem Tryz.strings_Cut (s sep : ByteArray) (m : Int) (w : World) (hs : s.size < 4294967281) (hm : w.cell? ⟨0, 0, none⟩ = some (.int .i64 m)) :
  Calls Tryz.prog 25 #[.string s, .string sep] w fun e w' => e = .returned (.tuple #[.string ⟨(Lib.cut s.data.toList sep.data.toList).1.toArray⟩, .string ⟨(Lib.cut s.data.toList sep.data.toList).2.1.toArray⟩, .bool (Lib.cut s.data.toList sep.data.toList).2.2]) ∧ ∃ n, w' = w.drewN n := Any.strings_Cut Tryz.lays145 s sep m w hs hm
open Go.RowKit Go.Lib in
open Go.RowKit Go.Lib in
def Tryz.laysM145_ren : Go.Shelf.Ren := ⟨fun | 145 => 25 | 220 => 38 | 219 => 50 | 217 => 70 | 225 => 71 | 224 => 72 | 267 => 73 | 266 => 83 | 314 => 84 | n => n, fun | 9 => 9 | 4 => 4 | 59 => 48 | 3 => 3 | 5 => 5 | 46 => 90 | 146 => 103 | 51 => 102 | n => n, fun | 1 => 0 | n => n⟩
theorem Tryz.laysM145 : Go.Proofs.LaysM.n145 Tryz.prog Tryz.laysM145_ren := {
 mixed := by kernel_rfl
 f145 := Tryz.func25.trans (congrArg some (by kernel_rfl))
 f217 := Tryz.func70.trans (congrArg some (by kernel_rfl))
 f219 := Tryz.func50.trans (congrArg some (by kernel_rfl))
 f220 := Tryz.func38.trans (congrArg some (by kernel_rfl))
 f224 := Tryz.func72.trans (congrArg some (by kernel_rfl))
 f225 := Tryz.func71.trans (congrArg some (by kernel_rfl))
 f266 := Tryz.func83.trans (congrArg some (by kernel_rfl))
 f267 := Tryz.func73.trans (congrArg some (by kernel_rfl))
 f314 := Tryz.func84.trans (congrArg some (by kernel_rfl))
 t3 := Tryz.underlying3
 a3 := Tryz.isAgg3
 z3 := Tryz.sizeOf3
 v3 := Tryz.zeroValue3
 t4 := Tryz.underlying4
 a4 := Tryz.isAgg4
 z4 := Tryz.sizeOf4
 v4 := Tryz.zeroValue4
 t5 := Tryz.underlying5
 a5 := Tryz.isAgg5
 z5 := Tryz.sizeOf5
 v5 := Tryz.zeroValue5
 t9 := Tryz.underlying9
 a9 := Tryz.isAgg9
 z9 := Tryz.sizeOf9
 v9 := Tryz.zeroValue9
 t46 := Tryz.underlying90
 a46 := Tryz.isAgg90
 z46 := Tryz.sizeOf90
 v46 := Tryz.zeroValue90
 t51 := Tryz.underlying102
 a51 := Tryz.isAgg102
 z51 := Tryz.sizeOf102
 v51 := Tryz.zeroValue102
 t59 := Tryz.underlying48
 a59 := Tryz.isAgg48
 z59 := Tryz.sizeOf48
 v59 := Tryz.zeroValue48
 t146 := Tryz.underlying103
 a146 := Tryz.isAgg103
 z146 := Tryz.sizeOf103
 v146 := Tryz.zeroValue103
 g1 := by kernel_rfl
 i3 := by kernel_rfl
 i4 := by kernel_rfl
 i5 := by kernel_rfl
 i9 := by kernel_rfl
 i46 := by kernel_rfl
 i51 := by kernel_rfl
 i59 := by kernel_rfl
 i146 := by kernel_rfl
 m1 := by kernel_rfl
 s1_3 := fun w h => Go.Proofs.cell_of_shapedOpen_int (zero := #[.int .i64 0]) (t := 3) h (of_decide_eq_true (by kernel_rfl)) (by kernel_rfl) rfl (by kernel_rfl) (by kernel_rfl) Tryz.underlying3 }
def Tryz.lays206_ren : Go.Shelf.Ren := ⟨fun | 206 => 54 | n => n, fun | 9 => 9 | 4 => 4 | 3 => 3 | n => n, fun | n => n⟩
open Go.RowKit Go.Lib in
open Go.RowKit Go.Lib in
def Tryz.lays101_ren : Go.Shelf.Ren := ⟨fun | 101 => 27 | 208 => 40 | 206 => 54 | n => n, fun | 9 => 9 | 4 => 4 | 3 => 3 | n => n, fun | n => n⟩
theorem Tryz.lays101 : Go.Proofs.Lays.n101 Tryz.prog Tryz.lays101_ren := {
 mixed := by kernel_rfl
 f101 := Tryz.func27.trans (congrArg some (by kernel_rfl))
 f206 := Tryz.func54.trans (congrArg some (by kernel_rfl))
 f208 := Tryz.func40.trans (congrArg some (by kernel_rfl))
 t3 := Tryz.underlying3
 a3 := Tryz.isAgg3
 z3 := Tryz.sizeOf3
 v3 := Tryz.zeroValue3
 t4 := Tryz.underlying4
 a4 := Tryz.isAgg4
 z4 := Tryz.sizeOf4
 v4 := Tryz.zeroValue4
 t9 := Tryz.underlying9
 a9 := Tryz.isAgg9
 z9 := Tryz.sizeOf9
 v9 := Tryz.zeroValue9 }
open Go.RowKit Go.Lib in
theorem Tryz.strings_TrimPrefix (s p : ByteArray) (w : World) :
  Calls Tryz.prog 27 #[.string s, .string p] w fun e w' => e = .returned (.string ⟨(Lib.trimPrefix s.data.toList p.data.toList).toArray⟩) ∧ w' = w := Any.strings_TrimPrefix Tryz.lays101 s p w
open Go.RowKit Go.Lib in
def Tryz.lays221_ren : Go.Shelf.Ren := ⟨fun | 221 => 39 | 268 => 51 | 138 => 52 | 143 => 53 | 195 => 74 | 197 => 75 | 218 => 76 | 219 => 50 | 260 => 85 | 217 => 70 | 225 => 71 | 224 => 72 | 267 => 73 | 266 => 83 | 314 => 84 | n => n, fun | 9 => 9 | 3 => 3 | 31 => 50 | 4 => 4 | 0 => 0 | 105 => 91 | 21 => 21 | 5 => 5 | 46 => 90 | 119 => 117 | 139 => 120 | 138 => 119 | 146 => 103 | 51 => 102 | n => n, fun | 1 => 0 | 3 => 3 | 4 => 4 | n => n⟩
def Tryz.lays146_ren : Go.Shelf.Ren := ⟨fun | 146 => 26 | 221 => 39 | 268 => 51 | 138 => 52 | 143 => 53 | 195 => 74 | 197 => 75 | 218 => 76 | 219 => 50 | 260 => 85 | 217 => 70 | 225 => 71 | 224 => 72 | 267 => 73 | 266 => 83 | 314 => 84 | n => n, fun | 9 => 9 | 31 => 50 | 3 => 3 | 4 => 4 | 0 => 0 | 105 => 91 | 21 => 21 | 5 => 5 | 46 => 90 | 119 => 117 | 139 => 120 | 138 => 119 | 146 => 103 | 51 => 102 | n => n, fun | 1 => 0 | 3 => 3 | 4 => 4 | n => n⟩
theorem Tryz.lays146 : Go.Proofs.Lays.n146 Tryz.prog Tryz.lays146_ren := {
 mixed := by kernel_rfl
 f138 := Tryz.func52.trans (congrArg some (by kernel_rfl))
 f143 := Tryz.func53.trans (congrArg some (by kernel_rfl))
 f146 := Tryz.func26.trans (congrArg some (by kernel_rfl))
 f195 := Tryz.func74.trans (congrArg some (by kernel_rfl))
 f197 := Tryz.func75.trans (congrArg some (by kernel_rfl))
 f217 := Tryz.func70.trans (congrArg some (by kernel_rfl))
 f218 := Tryz.func76.trans (congrArg some (by kernel_rfl))
 f219 := Tryz.func50.trans (congrArg some (by kernel_rfl))
 f221 := Tryz.func39.trans (congrArg some (by kernel_rfl))
 f224 := Tryz.func72.trans (congrArg some (by kernel_rfl))
 f225 := Tryz.func71.trans (congrArg some (by kernel_rfl))
 f260 := Tryz.func85.trans (congrArg some (by kernel_rfl))
 f266 := Tryz.func83.trans (congrArg some (by kernel_rfl))
 f267 := Tryz.func73.trans (congrArg some (by kernel_rfl))
 f268 := Tryz.func51.trans (congrArg some (by kernel_rfl))
 f314 := Tryz.func84.trans (congrArg some (by kernel_rfl))
 t0 := Tryz.underlying0
 a0 := Tryz.isAgg0
 z0 := Tryz.sizeOf0
 v0 := Tryz.zeroValue0
 t3 := Tryz.underlying3
 a3 := Tryz.isAgg3
 z3 := Tryz.sizeOf3
 v3 := Tryz.zeroValue3
 t4 := Tryz.underlying4
 a4 := Tryz.isAgg4
 z4 := Tryz.sizeOf4
 v4 := Tryz.zeroValue4
 t5 := Tryz.underlying5
 a5 := Tryz.isAgg5
 z5 := Tryz.sizeOf5
 v5 := Tryz.zeroValue5
 t9 := Tryz.underlying9
 a9 := Tryz.isAgg9
 z9 := Tryz.sizeOf9
 v9 := Tryz.zeroValue9
 t21 := Tryz.underlying21
 a21 := Tryz.isAgg21
 z21 := Tryz.sizeOf21
 v21 := Tryz.zeroValue21
 t31 := Tryz.underlying50
 a31 := Tryz.isAgg50
 z31 := Tryz.sizeOf50
 v31 := Tryz.zeroValue50
 t46 := Tryz.underlying90
 a46 := Tryz.isAgg90
 z46 := Tryz.sizeOf90
 v46 := Tryz.zeroValue90
 t51 := Tryz.underlying102
 a51 := Tryz.isAgg102
 z51 := Tryz.sizeOf102
 v51 := Tryz.zeroValue102
 t105 := Tryz.underlying91
 a105 := Tryz.isAgg91
 z105 := Tryz.sizeOf91
 v105 := Tryz.zeroValue91
 t119 := Tryz.underlying117
 a119 := Tryz.isAgg117
 z119 := Tryz.sizeOf117
 t138 := Tryz.underlying119
 a138 := Tryz.isAgg119
 z138 := Tryz.sizeOf119
 v138 := Tryz.zeroValue119
 t139 := Tryz.underlying120
 a139 := Tryz.isAgg120
 z139 := Tryz.sizeOf120
 v139 := Tryz.zeroValue120
 t146 := Tryz.underlying103
 a146 := Tryz.isAgg103
 z146 := Tryz.sizeOf103
 v146 := Tryz.zeroValue103
 g1 := by kernel_rfl
 g3 := by kernel_rfl
 g4 := by kernel_rfl }
open Go.RowKit Go.Lib in
theorem Tryz.strings_Split (s sep : ByteArray) (m : Int) (w : World) (hs : s.size < 4294967281) (hm : w.cell? ⟨0, 0, none⟩ = some (.int .i64 m)) (h1 : 1 ≤ sep.size) :
  Calls Tryz.prog 26 #[.string s, .string sep] w fun e w' =>
   e = .returned (.slice (some ⟨w.heap.size, 0, none⟩) (Lib.countB s sep + 1) (Lib.countB s sep + 1)) ∧ w' = w.alloc (.cells ((Lib.splitB sep 0 (Lib.countB s sep) s).map Value.string).toArray 9) := Any.strings_Split Tryz.lays146 (by kernel_rfl) s sep m w hs hm h1
end Go.Proofs
