-- Written by this session's own programs; what the law does not lean on is left out. Lean checks it.
import Derived.Shelf.Strings.Builder1
import Derived.Shelf.Strings.Builder2
import Derived.Shelf.Strings.OnBuilder
import Derived.Shelf.Strconv.Atoi
import Derived.Shelf.Strconv.Itoa0
import Derived.Shelf.Strconv.Itoa1
import Derived.Shelf.LaysM
import Derived.Shelf.Strconv.Itoa2
import Derived.Shelf.Strconv.Itoa3
import Derived.Shelf.Strconv.AtoiErrFast
import Derived.Shelf.Strconv.ParseIntEmpty
import Derived.Shelf.Strconv.AtoiFail
import Derived.Shelf.Strconv.Clone
import Derived.Shelf.Strconv.SyntaxError
import Derived.Shelf.LaysC
import Derived.Shelf.Strconv.ToError
import Derived.Shelf.Strconv.Lower
import Derived.Shelf.Strconv.ParseUint10
import Derived.Shelf.Strconv.ParseUint10Empty
import Derived.Shelf.Strconv.ParseUint10Any
import Derived.Shelf.Strconv.ParseInt10
import Derived.Shelf.Strconv.AtoiLong
import Derived.Shelf.Strconv.AtoiInnerAll
import Derived.Shelf.Strconv.RangeError
import Derived.Shelf.Strconv.ToErrorRange
import Derived.Shelf.Strconv.AtoiAll
import Derived.Shelf.Strconv.ErrVarAll
import Derived.Shelf.Strings.Search1
import Derived.Shelf.Strings.Search2
import Derived.Shelf.Strings.Search3
import Derived.Shelf.Strings.Cut
import Derived.Shelf.Strings.Count
import Derived.Shelf.Strings.Shaped
import Derived.Shelf.Strings.Prefix
import Derived.Shelf.Strings.Split
import Derived.Shelf.Strings.SplitShaped
import Derived.Shelf.Unicode.DecodeSlow
import Derived.Test.YtejgenhmhahgeaaDoorProg
namespace Go.Proofs
open Go.Shelf
open Go.RowKit in
open Go.RowKit in
open Go.RowKit in
open Go.RowKit in
open Go.RowKit in
def Tryd.lays156_ren : Go.Shelf.Ren := ⟨fun | 156 => 35 | 165 => 51 | 166 => 52 | 169 => 53 | 240 => 73 | 241 => 74 | 276 => 96 | 277 => 97 | n => n, fun | 31 => 56 | 9 => 9 | 3 => 3 | 4 => 4 | 0 => 0 | 20 => 20 | 72 => 80 | 76 => 61 | 70 => 77 | 37 => 78 | 75 => 60 | 127 => 97 | 164 => 118 | 5 => 5 | 80 => 82 | n => n, fun | n => n⟩
theorem Tryd.lays156 : Go.Proofs.Lays.n156 Tryd.prog Tryd.lays156_ren := {
 mixed := by kernel_rfl
 f156 := Tryd.func35.trans (congrArg some (by kernel_rfl))
 f165 := Tryd.func51.trans (congrArg some (by kernel_rfl))
 f166 := Tryd.func52.trans (congrArg some (by kernel_rfl))
 f169 := Tryd.func53.trans (congrArg some (by kernel_rfl))
 f240 := Tryd.func73.trans (congrArg some (by kernel_rfl))
 f241 := Tryd.func74.trans (congrArg some (by kernel_rfl))
 f276 := Tryd.func96.trans (congrArg some (by kernel_rfl))
 f277 := Tryd.func97.trans (congrArg some (by kernel_rfl))
 t0 := Tryd.underlying0
 a0 := Tryd.isAgg0
 z0 := Tryd.sizeOf0
 v0 := Tryd.zeroValue0
 t3 := Tryd.underlying3
 a3 := Tryd.isAgg3
 z3 := Tryd.sizeOf3
 v3 := Tryd.zeroValue3
 t4 := Tryd.underlying4
 a4 := Tryd.isAgg4
 z4 := Tryd.sizeOf4
 v4 := Tryd.zeroValue4
 t9 := Tryd.underlying9
 a9 := Tryd.isAgg9
 z9 := Tryd.sizeOf9
 v9 := Tryd.zeroValue9
 t20 := Tryd.underlying20
 a20 := Tryd.isAgg20
 z20 := Tryd.sizeOf20
 v20 := Tryd.zeroValue20
 t31 := Tryd.underlying56
 a31 := Tryd.isAgg56
 z31 := Tryd.sizeOf56
 v31 := Tryd.zeroValue56
 t37 := Tryd.underlying78
 a37 := Tryd.isAgg78
 z37 := Tryd.sizeOf78
 v37 := Tryd.zeroValue78
 t70 := Tryd.underlying77
 a70 := Tryd.isAgg77
 z70 := Tryd.sizeOf77
 v70 := Tryd.zeroValue77
 t72 := Tryd.underlying80
 a72 := Tryd.isAgg80
 z72 := Tryd.sizeOf80
 v72 := Tryd.zeroValue80
 t75 := Tryd.underlying60
 a75 := Tryd.isAgg60
 z75 := Tryd.sizeOf60
 v75 := Tryd.zeroValue60
 t76 := Tryd.underlying61
 a76 := Tryd.isAgg61
 z76 := Tryd.sizeOf61
 v76 := Tryd.zeroValue61
 t127 := Tryd.underlying97
 a127 := Tryd.isAgg97
 z127 := Tryd.sizeOf97
 v127 := Tryd.zeroValue97
 t164 := Tryd.underlying118
 a164 := Tryd.isAgg118
 z164 := Tryd.sizeOf118
 v164 := Tryd.zeroValue118 }
theorem Tryd.Builder_Extra_156 : Builder.Extra Tryd.prog Tryd.lays156_ren := {
 sizeBuilder := by kernel_rfl
 liesBuilder := by kernel_rfl
 t5 := Tryd.underlying5
 a5 := Tryd.isAgg5
 z5 := Tryd.sizeOf5
 v5 := Tryd.zeroValue5
 infoByte := by kernel_rfl
 cellsByte := by kernel_rfl
 sizeByte := by kernel_rfl
 neB5 := by decide }
open Go.RowKit in
theorem Tryd.strings_Join_none (a : Option Addr) (c : Nat) (sep : ByteArray) (w : World) :
  Calls Tryd.prog 35 #[.slice a 0 c, .string sep] w fun e w' => e = .returned (.string ⟨#[]⟩) ∧ w' = w := Any.strings_Join_none Tryd.lays156 Tryd.Builder_Extra_156 a c sep w
open Go.RowKit in
theorem Tryd.strings_Join (bk o c : Nat) (xs : List ByteArray) (sep : ByteArray) (w : World) (hcells : ∀ (j : Nat) x, xs[j]? = some x → w.cell? ⟨bk, o + j, none⟩ = some (.string x)) (hbk : bk < w.heap.size) (hN : xs.length ≤ 140737488355328) (hcap : xs.length ≤ c) (hlen : (Lib.join (xs.map (·.data.toList)) sep.data.toList).length ≤ 140737488355328) :
  Calls Tryd.prog 35 #[.slice (some ⟨bk, o, none⟩) xs.length c, .string sep] w fun e w' => e = .returned (.string ⟨(Lib.join (xs.map (·.data.toList)) sep.data.toList).toArray⟩) ∧ Below w.heap.size w w' := Any.strings_Join Tryd.lays156 Tryd.Builder_Extra_156 bk o c xs sep w hcells hbk hN hcap hlen
open Go.RowKit in
def Tryd.lays172_ren : Go.Shelf.Ren := ⟨fun | 172 => 31 | 244 => 48 | 245 => 49 | 247 => 67 | 279 => 68 | 280 => 69 | 281 => 70 | 282 => 71 | 287 => 89 | 316 => 90 | 171 => 34 | 205 => 91 | 321 => 101 | 322 => 102 | 243 => 50 | 246 => 72 | 283 => 92 | 284 => 93 | 285 => 94 | 286 => 95 | 129 => 104 | 317 => 103 | 318 => 105 | 319 => 106 | 320 => 107 | 337 => 108 | 338 => 109 | n => n, fun | 9 => 9 | 3 => 3 | 75 => 60 | 76 => 61 | 4 => 4 | 5 => 5 | 167 => 90 | 37 => 78 | 0 => 0 | 85 => 91 | 2 => 2 | 168 => 93 | 53 => 106 | 175 => 107 | 46 => 103 | 210 => 111 | 127 => 97 | 145 => 127 | 143 => 125 | 21 => 21 | 171 => 113 | 173 => 116 | 212 => 129 | 51 => 121 | 20 => 20 | 213 => 130 | 232 => 137 | 233 => 138 | 80 => 82 | n => n, fun | 15 => 1 | 16 => 2 | 17 => 3 | 18 => 6 | 19 => 7 | n => n⟩
open Go.RowKit in
open Go.Lib in
open Go.Lib in
open Go.Lib in
open Go.Lib in
open Go.RowKit Go.Sort Go.Lib in
def Tryd.laysM246_ren : Go.Shelf.Ren := ⟨fun | 246 => 72 | 283 => 92 | 284 => 93 | 285 => 94 | 286 => 95 | 129 => 104 | 317 => 103 | 318 => 105 | 319 => 106 | 320 => 107 | 337 => 108 | 338 => 109 | n => n, fun | 2 => 2 | 3 => 3 | 9 => 9 | 4 => 4 | 171 => 113 | 0 => 0 | 53 => 106 | 37 => 78 | 5 => 5 | 173 => 116 | 212 => 129 | 51 => 121 | 20 => 20 | 213 => 130 | 46 => 103 | 232 => 137 | 233 => 138 | n => n, fun | 17 => 3 | 18 => 6 | 19 => 7 | n => n⟩
open Go.RowKit Go.Sort Go.Lib in
open Go.RowKit Go.Sort Go.Lib in
def Tryd.laysM243_ren : Go.Shelf.Ren := ⟨fun | 243 => 50 | 246 => 72 | 283 => 92 | 284 => 93 | 285 => 94 | 286 => 95 | 129 => 104 | 317 => 103 | 318 => 105 | 319 => 106 | 320 => 107 | 337 => 108 | 338 => 109 | n => n, fun | 3 => 3 | 9 => 9 | 2 => 2 | 4 => 4 | 171 => 113 | 0 => 0 | 53 => 106 | 37 => 78 | 5 => 5 | 173 => 116 | 212 => 129 | 51 => 121 | 20 => 20 | 213 => 130 | 46 => 103 | 232 => 137 | 233 => 138 | n => n, fun | 17 => 3 | 18 => 6 | 19 => 7 | n => n⟩
open Go.RowKit Go.Sort Go.Lib in
open Go.RowKit Go.Sort Go.Lib in
def Tryd.laysM171_ren : Go.Shelf.Ren := ⟨fun | 171 => 34 | 243 => 50 | 246 => 72 | 283 => 92 | 284 => 93 | 285 => 94 | 286 => 95 | 129 => 104 | 317 => 103 | 318 => 105 | 319 => 106 | 320 => 107 | 337 => 108 | 338 => 109 | n => n, fun | 3 => 3 | 9 => 9 | 2 => 2 | 4 => 4 | 171 => 113 | 0 => 0 | 53 => 106 | 37 => 78 | 5 => 5 | 173 => 116 | 212 => 129 | 51 => 121 | 20 => 20 | 213 => 130 | 46 => 103 | 232 => 137 | 233 => 138 | n => n, fun | 17 => 3 | 18 => 6 | 19 => 7 | n => n⟩
theorem Tryd.laysM171 : Go.Proofs.LaysM.n171 Tryd.prog Tryd.laysM171_ren := {
 mixed := by kernel_rfl
 f129 := Tryd.func104.trans (congrArg some (by kernel_rfl))
 f171 := Tryd.func34.trans (congrArg some (by kernel_rfl))
 f243 := Tryd.func50.trans (congrArg some (by kernel_rfl))
 f246 := Tryd.func72.trans (congrArg some (by kernel_rfl))
 f283 := Tryd.func92.trans (congrArg some (by kernel_rfl))
 f284 := Tryd.func93.trans (congrArg some (by kernel_rfl))
 f285 := Tryd.func94.trans (congrArg some (by kernel_rfl))
 f286 := Tryd.func95.trans (congrArg some (by kernel_rfl))
 f317 := Tryd.func103.trans (congrArg some (by kernel_rfl))
 f318 := Tryd.func105.trans (congrArg some (by kernel_rfl))
 f319 := Tryd.func106.trans (congrArg some (by kernel_rfl))
 f320 := Tryd.func107.trans (congrArg some (by kernel_rfl))
 f337 := Tryd.func108.trans (congrArg some (by kernel_rfl))
 f338 := Tryd.func109.trans (congrArg some (by kernel_rfl))
 t0 := Tryd.underlying0
 a0 := Tryd.isAgg0
 z0 := Tryd.sizeOf0
 v0 := Tryd.zeroValue0
 t2 := Tryd.underlying2
 a2 := Tryd.isAgg2
 z2 := Tryd.sizeOf2
 v2 := Tryd.zeroValue2
 t3 := Tryd.underlying3
 a3 := Tryd.isAgg3
 z3 := Tryd.sizeOf3
 v3 := Tryd.zeroValue3
 t4 := Tryd.underlying4
 a4 := Tryd.isAgg4
 z4 := Tryd.sizeOf4
 v4 := Tryd.zeroValue4
 t5 := Tryd.underlying5
 a5 := Tryd.isAgg5
 z5 := Tryd.sizeOf5
 v5 := Tryd.zeroValue5
 t9 := Tryd.underlying9
 a9 := Tryd.isAgg9
 z9 := Tryd.sizeOf9
 v9 := Tryd.zeroValue9
 t20 := Tryd.underlying20
 a20 := Tryd.isAgg20
 z20 := Tryd.sizeOf20
 v20 := Tryd.zeroValue20
 t37 := Tryd.underlying78
 a37 := Tryd.isAgg78
 z37 := Tryd.sizeOf78
 v37 := Tryd.zeroValue78
 t46 := Tryd.underlying103
 a46 := Tryd.isAgg103
 z46 := Tryd.sizeOf103
 v46 := Tryd.zeroValue103
 t51 := Tryd.underlying121
 a51 := Tryd.isAgg121
 z51 := Tryd.sizeOf121
 v51 := Tryd.zeroValue121
 t53 := Tryd.underlying106
 a53 := Tryd.isAgg106
 z53 := Tryd.sizeOf106
 v53 := Tryd.zeroValue106
 t171 := Tryd.underlying113
 a171 := Tryd.isAgg113
 z171 := Tryd.sizeOf113
 v171 := Tryd.zeroValue113
 t173 := Tryd.underlying116
 a173 := Tryd.isAgg116
 z173 := Tryd.sizeOf116
 v173 := Tryd.zeroValue116
 t212 := Tryd.underlying129
 a212 := Tryd.isAgg129
 z212 := Tryd.sizeOf129
 v212 := Tryd.zeroValue129
 t213 := Tryd.underlying130
 a213 := Tryd.isAgg130
 z213 := Tryd.sizeOf130
 t232 := Tryd.underlying137
 a232 := Tryd.isAgg137
 z232 := Tryd.sizeOf137
 v232 := Tryd.zeroValue137
 t233 := Tryd.underlying138
 a233 := Tryd.isAgg138
 z233 := Tryd.sizeOf138
 v233 := Tryd.zeroValue138
 g17 := by kernel_rfl
 g18 := by kernel_rfl
 g19 := by kernel_rfl
 i0 := by kernel_rfl
 i2 := by kernel_rfl
 i3 := by kernel_rfl
 i4 := by kernel_rfl
 i5 := by kernel_rfl
 i9 := by kernel_rfl
 i20 := by kernel_rfl
 i37 := by kernel_rfl
 i46 := by kernel_rfl
 i51 := by kernel_rfl
 i53 := by kernel_rfl
 i171 := by kernel_rfl
 i173 := by kernel_rfl
 i212 := by kernel_rfl
 i232 := by kernel_rfl
 i233 := by kernel_rfl
 m17 := by kernel_rfl
 m18 := by kernel_rfl
 m19 := by kernel_rfl }
open Go.RowKit Go.Sort Go.Lib in
theorem Tryd.strconv_Itoa (n : Int) (h0 : -9223372036854775808 ≤ n) (h1 : n ≤ 9223372036854775807) (w : World) (htab : Lib.TabIs Tryd.prog w "internal/strconv.uint64pow10" .u64 Lib.pow10Tab) :
  Calls Tryd.prog 34 #[.int .i64 n] w fun e w' => e = .returned (.string ⟨(Lib.itoa n).toArray⟩) ∧ ∃ k os, w' = grow (w.drewN k) os := Any.strconv_Itoa Tryd.laysM171 n h0 h1 w htab
open Go.RowKit Go.Sort Go.Lib in
open Go.RowKit in
open Go.RowKit in
open Go.RowKit in
open Go.RowKit in
open Go.RowKit in
open Go.RowKit in
open Go.RowKit in
open Go.RowKit in
open Go.RowKit in
open Go.RowKit in
open Go.RowKit in
open Go.RowKit in
open Go.RowKit in
open Go.RowKit in
open Go.RowKit in
open Go.RowKit in
def Tryd.laysC172_ren : Go.Shelf.Ren := ⟨fun | 172 => 31 | 244 => 48 | 245 => 49 | 247 => 67 | 279 => 68 | 280 => 69 | 281 => 70 | 282 => 71 | 287 => 89 | 316 => 90 | 171 => 34 | 205 => 91 | 321 => 101 | 322 => 102 | 243 => 50 | 246 => 72 | 283 => 92 | 284 => 93 | 285 => 94 | 286 => 95 | 129 => 104 | 317 => 103 | 318 => 105 | 319 => 106 | 320 => 107 | 337 => 108 | 338 => 109 | n => n, fun | 9 => 9 | 3 => 3 | 75 => 60 | 76 => 61 | 4 => 4 | 5 => 5 | 167 => 90 | 37 => 78 | 0 => 0 | 85 => 91 | 2 => 2 | 168 => 93 | 53 => 106 | 175 => 107 | 46 => 103 | 210 => 111 | 127 => 97 | 145 => 127 | 143 => 125 | 21 => 21 | 171 => 113 | 173 => 116 | 212 => 129 | 51 => 121 | 20 => 20 | 213 => 130 | 232 => 137 | 233 => 138 | 80 => 82 | n => n, fun | 15 => 1 | 16 => 2 | 17 => 3 | 18 => 6 | 19 => 7 | n => n⟩
theorem Tryd.laysC172 : Go.Proofs.LaysC.n172 Tryd.prog Tryd.laysC172_ren := {
 mixed := by kernel_rfl
 f129 := Tryd.func104.trans (congrArg some (by kernel_rfl))
 f171 := Tryd.func34.trans (congrArg some (by kernel_rfl))
 f172 := Tryd.func31.trans (congrArg some (by kernel_rfl))
 f205 := Tryd.func91.trans (congrArg some (by kernel_rfl))
 f243 := Tryd.func50.trans (congrArg some (by kernel_rfl))
 f244 := Tryd.func48.trans (congrArg some (by kernel_rfl))
 f245 := Tryd.func49.trans (congrArg some (by kernel_rfl))
 f246 := Tryd.func72.trans (congrArg some (by kernel_rfl))
 f247 := Tryd.func67.trans (congrArg some (by kernel_rfl))
 f279 := Tryd.func68.trans (congrArg some (by kernel_rfl))
 f280 := Tryd.func69.trans (congrArg some (by kernel_rfl))
 f281 := Tryd.func70.trans (congrArg some (by kernel_rfl))
 f282 := Tryd.func71.trans (congrArg some (by kernel_rfl))
 f283 := Tryd.func92.trans (congrArg some (by kernel_rfl))
 f284 := Tryd.func93.trans (congrArg some (by kernel_rfl))
 f285 := Tryd.func94.trans (congrArg some (by kernel_rfl))
 f286 := Tryd.func95.trans (congrArg some (by kernel_rfl))
 f287 := Tryd.func89.trans (congrArg some (by kernel_rfl))
 f316 := Tryd.func90.trans (congrArg some (by kernel_rfl))
 f317 := Tryd.func103.trans (congrArg some (by kernel_rfl))
 f318 := Tryd.func105.trans (congrArg some (by kernel_rfl))
 f319 := Tryd.func106.trans (congrArg some (by kernel_rfl))
 f320 := Tryd.func107.trans (congrArg some (by kernel_rfl))
 f321 := Tryd.func101.trans (congrArg some (by kernel_rfl))
 f322 := Tryd.func102.trans (congrArg some (by kernel_rfl))
 f337 := Tryd.func108.trans (congrArg some (by kernel_rfl))
 f338 := Tryd.func109.trans (congrArg some (by kernel_rfl))
 t0 := Tryd.underlying0
 a0 := Tryd.isAgg0
 z0 := Tryd.sizeOf0
 v0 := Tryd.zeroValue0
 t2 := Tryd.underlying2
 a2 := Tryd.isAgg2
 z2 := Tryd.sizeOf2
 v2 := Tryd.zeroValue2
 t3 := Tryd.underlying3
 a3 := Tryd.isAgg3
 z3 := Tryd.sizeOf3
 v3 := Tryd.zeroValue3
 t4 := Tryd.underlying4
 a4 := Tryd.isAgg4
 z4 := Tryd.sizeOf4
 v4 := Tryd.zeroValue4
 t5 := Tryd.underlying5
 a5 := Tryd.isAgg5
 z5 := Tryd.sizeOf5
 v5 := Tryd.zeroValue5
 t9 := Tryd.underlying9
 a9 := Tryd.isAgg9
 z9 := Tryd.sizeOf9
 v9 := Tryd.zeroValue9
 t20 := Tryd.underlying20
 a20 := Tryd.isAgg20
 z20 := Tryd.sizeOf20
 v20 := Tryd.zeroValue20
 t21 := Tryd.underlying21
 a21 := Tryd.isAgg21
 z21 := Tryd.sizeOf21
 v21 := Tryd.zeroValue21
 t37 := Tryd.underlying78
 a37 := Tryd.isAgg78
 z37 := Tryd.sizeOf78
 v37 := Tryd.zeroValue78
 t46 := Tryd.underlying103
 a46 := Tryd.isAgg103
 z46 := Tryd.sizeOf103
 v46 := Tryd.zeroValue103
 t51 := Tryd.underlying121
 a51 := Tryd.isAgg121
 z51 := Tryd.sizeOf121
 v51 := Tryd.zeroValue121
 t53 := Tryd.underlying106
 a53 := Tryd.isAgg106
 z53 := Tryd.sizeOf106
 v53 := Tryd.zeroValue106
 t75 := Tryd.underlying60
 a75 := Tryd.isAgg60
 z75 := Tryd.sizeOf60
 v75 := Tryd.zeroValue60
 t76 := Tryd.underlying61
 a76 := Tryd.isAgg61
 z76 := Tryd.sizeOf61
 v76 := Tryd.zeroValue61
 t85 := Tryd.underlying91
 a85 := Tryd.isAgg91
 z85 := Tryd.sizeOf91
 v85 := Tryd.zeroValue91
 t127 := Tryd.underlying97
 a127 := Tryd.isAgg97
 z127 := Tryd.sizeOf97
 v127 := Tryd.zeroValue97
 t143 := Tryd.underlying125
 a143 := Tryd.isAgg125
 z143 := Tryd.sizeOf125
 v143 := Tryd.zeroValue125
 t145 := Tryd.underlying127
 a145 := Tryd.isAgg127
 z145 := Tryd.sizeOf127
 v145 := Tryd.zeroValue127
 t167 := Tryd.underlying90
 a167 := Tryd.isAgg90
 z167 := Tryd.sizeOf90
 v167 := Tryd.zeroValue90
 t168 := Tryd.underlying93
 a168 := Tryd.isAgg93
 z168 := Tryd.sizeOf93
 v168 := Tryd.zeroValue93
 t171 := Tryd.underlying113
 a171 := Tryd.isAgg113
 z171 := Tryd.sizeOf113
 v171 := Tryd.zeroValue113
 t173 := Tryd.underlying116
 a173 := Tryd.isAgg116
 z173 := Tryd.sizeOf116
 v173 := Tryd.zeroValue116
 t175 := Tryd.underlying107
 a175 := Tryd.isAgg107
 z175 := Tryd.sizeOf107
 v175 := Tryd.zeroValue107
 t210 := Tryd.underlying111
 a210 := Tryd.isAgg111
 z210 := Tryd.sizeOf111
 v210 := Tryd.zeroValue111
 t212 := Tryd.underlying129
 a212 := Tryd.isAgg129
 z212 := Tryd.sizeOf129
 v212 := Tryd.zeroValue129
 t213 := Tryd.underlying130
 a213 := Tryd.isAgg130
 z213 := Tryd.sizeOf130
 t232 := Tryd.underlying137
 a232 := Tryd.isAgg137
 z232 := Tryd.sizeOf137
 v232 := Tryd.zeroValue137
 t233 := Tryd.underlying138
 a233 := Tryd.isAgg138
 z233 := Tryd.sizeOf138
 v233 := Tryd.zeroValue138
 g15 := by kernel_rfl
 g16 := by kernel_rfl
 g17 := by kernel_rfl
 g18 := by kernel_rfl
 g19 := by kernel_rfl
 t80 := Tryd.underlying82
 a80 := Tryd.isAgg82
 z80 := Tryd.sizeOf82
 v80 := Tryd.zeroValue82
 i0 := by kernel_rfl
 i2 := by kernel_rfl
 i3 := by kernel_rfl
 i4 := by kernel_rfl
 i5 := by kernel_rfl
 i9 := by kernel_rfl
 i20 := by kernel_rfl
 i21 := by kernel_rfl
 i37 := by kernel_rfl
 i46 := by kernel_rfl
 i51 := by kernel_rfl
 i53 := by kernel_rfl
 i75 := by kernel_rfl
 i76 := by kernel_rfl
 i80 := by kernel_rfl
 i85 := by kernel_rfl
 i127 := by kernel_rfl
 i143 := by kernel_rfl
 i145 := by kernel_rfl
 i167 := by kernel_rfl
 i168 := by kernel_rfl
 i171 := by kernel_rfl
 i173 := by kernel_rfl
 i175 := by kernel_rfl
 i210 := by kernel_rfl
 i212 := by kernel_rfl
 i232 := by kernel_rfl
 i233 := by kernel_rfl
 m15 := by kernel_rfl
 m16 := by kernel_rfl
 m17 := by kernel_rfl
 m18 := by kernel_rfl
 m19 := by kernel_rfl
 c0 := by kernel_rfl
 c2 := by kernel_rfl
 c3 := by kernel_rfl
 c4 := by kernel_rfl
 c5 := by kernel_rfl
 c9 := by kernel_rfl
 c20 := by kernel_rfl
 c21 := by kernel_rfl
 c37 := by kernel_rfl
 c46 := by kernel_rfl
 c51 := by kernel_rfl
 c53 := by kernel_rfl
 c75 := by kernel_rfl
 c76 := by kernel_rfl
 c80 := by kernel_rfl
 c85 := by kernel_rfl
 c127 := by kernel_rfl
 c143 := by kernel_rfl
 c145 := by kernel_rfl
 c167 := by kernel_rfl
 c168 := by kernel_rfl
 c171 := by kernel_rfl
 c173 := by kernel_rfl
 c175 := by kernel_rfl
 c210 := by kernel_rfl
 c212 := by kernel_rfl
 c213 := by kernel_rfl
 c232 := by kernel_rfl
 c233 := by kernel_rfl }
open Go.RowKit in
theorem Tryd.strconv_Atoi_ok (s : ByteArray) (hmax : s.size ≤ 9223372036854775806) (v : Int) (h : Lib.atoiAll s.data.toList = .ok v) (w : World) :
  Calls Tryd.prog 31 #[.string s] w fun e w' => e = .returned (.tuple #[.int .i64 v, .nilIface]) ∧ (w' = w ∨ ∃ t, w' = Lib.bytesWorld w 5 t) := Any.strconv_Atoi_ok Tryd.laysC172 s hmax v h w
open Go.RowKit in
open Go.RowKit Go.Lib in
open Go.RowKit Go.Lib in
open Go.RowKit Go.Lib in
def Tryd.lays219_ren : Go.Shelf.Ren := ⟨fun | 219 => 62 | 217 => 82 | 225 => 83 | 224 => 84 | 267 => 85 | 266 => 98 | 314 => 99 | n => n, fun | 9 => 9 | 3 => 3 | 4 => 4 | 5 => 5 | 46 => 103 | 146 => 122 | 51 => 121 | n => n, fun | 1 => 0 | n => n⟩
open Go.RowKit Go.Lib in
open Go.RowKit Go.Lib in
open Go.RowKit Go.Lib in
open Go.RowKit Go.Lib in
open Go.RowKit Go.Lib in
def Tryd.lays145_ren : Go.Shelf.Ren := ⟨fun | 145 => 28 | 220 => 45 | 219 => 62 | 217 => 82 | 225 => 83 | 224 => 84 | 267 => 85 | 266 => 98 | 314 => 99 | n => n, fun | 9 => 9 | 4 => 4 | 59 => 54 | 3 => 3 | 5 => 5 | 46 => 103 | 146 => 122 | 51 => 121 | n => n, fun | 1 => 0 | n => n⟩
theorem Tryd.lays145 : Go.Proofs.Lays.n145 Tryd.prog Tryd.lays145_ren := {
 mixed := by kernel_rfl
 f145 := Tryd.func28.trans (congrArg some (by kernel_rfl))
 f217 := Tryd.func82.trans (congrArg some (by kernel_rfl))
 f219 := Tryd.func62.trans (congrArg some (by kernel_rfl))
 f220 := Tryd.func45.trans (congrArg some (by kernel_rfl))
 f224 := Tryd.func84.trans (congrArg some (by kernel_rfl))
 f225 := Tryd.func83.trans (congrArg some (by kernel_rfl))
 f266 := Tryd.func98.trans (congrArg some (by kernel_rfl))
 f267 := Tryd.func85.trans (congrArg some (by kernel_rfl))
 f314 := Tryd.func99.trans (congrArg some (by kernel_rfl))
 t3 := Tryd.underlying3
 a3 := Tryd.isAgg3
 z3 := Tryd.sizeOf3
 v3 := Tryd.zeroValue3
 t4 := Tryd.underlying4
 a4 := Tryd.isAgg4
 z4 := Tryd.sizeOf4
 v4 := Tryd.zeroValue4
 t5 := Tryd.underlying5
 a5 := Tryd.isAgg5
 z5 := Tryd.sizeOf5
 v5 := Tryd.zeroValue5
 t9 := Tryd.underlying9
 a9 := Tryd.isAgg9
 z9 := Tryd.sizeOf9
 v9 := Tryd.zeroValue9
 t46 := Tryd.underlying103
 a46 := Tryd.isAgg103
 z46 := Tryd.sizeOf103
 v46 := Tryd.zeroValue103
 t51 := Tryd.underlying121
 a51 := Tryd.isAgg121
 z51 := Tryd.sizeOf121
 v51 := Tryd.zeroValue121
 t59 := Tryd.underlying54
 a59 := Tryd.isAgg54
 z59 := Tryd.sizeOf54
 v59 := Tryd.zeroValue54
 t146 := Tryd.underlying122
 a146 := Tryd.isAgg122
 z146 := Tryd.sizeOf122
 v146 := Tryd.zeroValue122
 g1 := by kernel_rfl }
open Go.RowKit Go.Lib in
theorem Tryd.strings_Cut (s sep : ByteArray) (m : Int) (w : World) (hs : s.size < 4294967281) (hm : w.cell? ⟨0, 0, none⟩ = some (.int .i64 m)) :
  Calls Tryd.prog 28 #[.string s, .string sep] w fun e w' => e = .returned (.tuple #[.string ⟨(Lib.cut s.data.toList sep.data.toList).1.toArray⟩, .string ⟨(Lib.cut s.data.toList sep.data.toList).2.1.toArray⟩, .bool (Lib.cut s.data.toList sep.data.toList).2.2]) ∧ ∃ n, w' = w.drewN n := Any.strings_Cut Tryd.lays145 s sep m w hs hm
open Go.RowKit Go.Lib in
open Go.RowKit Go.Lib in
def Tryd.laysM145_ren : Go.Shelf.Ren := ⟨fun | 145 => 28 | 220 => 45 | 219 => 62 | 217 => 82 | 225 => 83 | 224 => 84 | 267 => 85 | 266 => 98 | 314 => 99 | n => n, fun | 9 => 9 | 4 => 4 | 59 => 54 | 3 => 3 | 5 => 5 | 46 => 103 | 146 => 122 | 51 => 121 | n => n, fun | 1 => 0 | n => n⟩
theorem Tryd.laysM145 : Go.Proofs.LaysM.n145 Tryd.prog Tryd.laysM145_ren := {
 mixed := by kernel_rfl
 f145 := Tryd.func28.trans (congrArg some (by kernel_rfl))
 f217 := Tryd.func82.trans (congrArg some (by kernel_rfl))
 f219 := Tryd.func62.trans (congrArg some (by kernel_rfl))
 f220 := Tryd.func45.trans (congrArg some (by kernel_rfl))
 f224 := Tryd.func84.trans (congrArg some (by kernel_rfl))
 f225 := Tryd.func83.trans (congrArg some (by kernel_rfl))
 f266 := Tryd.func98.trans (congrArg some (by kernel_rfl))
 f267 := Tryd.func85.trans (congrArg some (by kernel_rfl))
 f314 := Tryd.func99.trans (congrArg some (by kernel_rfl))
 t3 := Tryd.underlying3
 a3 := Tryd.isAgg3
 z3 := Tryd.sizeOf3
 v3 := Tryd.zeroValue3
 t4 := Tryd.underlying4
 a4 := Tryd.isAgg4
 z4 := Tryd.sizeOf4
 v4 := Tryd.zeroValue4
 t5 := Tryd.underlying5
 a5 := Tryd.isAgg5
 z5 := Tryd.sizeOf5
 v5 := Tryd.zeroValue5
 t9 := Tryd.underlying9
 a9 := Tryd.isAgg9
 z9 := Tryd.sizeOf9
 v9 := Tryd.zeroValue9
 t46 := Tryd.underlying103
 a46 := Tryd.isAgg103
 z46 := Tryd.sizeOf103
 v46 := Tryd.zeroValue103
 t51 := Tryd.underlying121
 a51 := Tryd.isAgg121
 z51 := Tryd.sizeOf121
 v51 := Tryd.zeroValue121
 t59 := Tryd.underlying54
 a59 := Tryd.isAgg54
 z59 := Tryd.sizeOf54
 v59 := Tryd.zeroValue54
 t146 := Tryd.underlying122
 a146 := Tryd.isAgg122
 z146 := Tryd.sizeOf122
 v146 := Tryd.zeroValue122
 g1 := by kernel_rfl
 i3 := by kernel_rfl
 i4 := by kernel_rfl
 i5 := by kernel_rfl
 i9 := by kernel_rfl
 i46 := by kernel_rfl
 i51 := by kernel_rfl
 i59 := by kernel_rfl
 i146 := by kernel_rfl
 m1 := by kernel_rfl
 s1_3 := fun w h => Go.Proofs.cell_of_shapedOpen_int (zero := #[.int .i64 0]) (t := 3) h (of_decide_eq_true (by kernel_rfl)) (by kernel_rfl) rfl (by kernel_rfl) (by kernel_rfl) Tryd.underlying3 }
def Tryd.lays206_ren : Go.Shelf.Ren := ⟨fun | 206 => 66 | n => n, fun | 9 => 9 | 4 => 4 | 3 => 3 | n => n, fun | n => n⟩
open Go.RowKit Go.Lib in
open Go.RowKit Go.Lib in
def Tryd.lays101_ren : Go.Shelf.Ren := ⟨fun | 101 => 30 | 208 => 47 | 206 => 66 | n => n, fun | 9 => 9 | 4 => 4 | 3 => 3 | n => n, fun | n => n⟩
theorem Tryd.lays101 : Go.Proofs.Lays.n101 Tryd.prog Tryd.lays101_ren := {
 mixed := by kernel_rfl
 f101 := Tryd.func30.trans (congrArg some (by kernel_rfl))
 f206 := Tryd.func66.trans (congrArg some (by kernel_rfl))
 f208 := Tryd.func47.trans (congrArg some (by kernel_rfl))
 t3 := Tryd.underlying3
 a3 := Tryd.isAgg3
 z3 := Tryd.sizeOf3
 v3 := Tryd.zeroValue3
 t4 := Tryd.underlying4
 a4 := Tryd.isAgg4
 z4 := Tryd.sizeOf4
 v4 := Tryd.zeroValue4
 t9 := Tryd.underlying9
 a9 := Tryd.isAgg9
 z9 := Tryd.sizeOf9
 v9 := Tryd.zeroValue9 }
open Go.RowKit Go.Lib in
theorem Tryd.strings_TrimPrefix (s p : ByteArray) (w : World) :
  Calls Tryd.prog 30 #[.string s, .string p] w fun e w' => e = .returned (.string ⟨(Lib.trimPrefix s.data.toList p.data.toList).toArray⟩) ∧ w' = w := Any.strings_TrimPrefix Tryd.lays101 s p w
open Go.RowKit Go.Lib in
def Tryd.lays221_ren : Go.Shelf.Ren := ⟨fun | 221 => 46 | 268 => 63 | 138 => 64 | 143 => 65 | 195 => 86 | 197 => 87 | 218 => 88 | 219 => 62 | 260 => 100 | 217 => 82 | 225 => 83 | 224 => 84 | 267 => 85 | 266 => 98 | 314 => 99 | n => n, fun | 9 => 9 | 3 => 3 | 31 => 56 | 4 => 4 | 0 => 0 | 105 => 104 | 21 => 21 | 5 => 5 | 46 => 103 | 119 => 132 | 139 => 135 | 138 => 134 | 146 => 122 | 51 => 121 | n => n, fun | 1 => 0 | 3 => 4 | 4 => 5 | n => n⟩
def Tryd.lays146_ren : Go.Shelf.Ren := ⟨fun | 146 => 29 | 221 => 46 | 268 => 63 | 138 => 64 | 143 => 65 | 195 => 86 | 197 => 87 | 218 => 88 | 219 => 62 | 260 => 100 | 217 => 82 | 225 => 83 | 224 => 84 | 267 => 85 | 266 => 98 | 314 => 99 | n => n, fun | 9 => 9 | 31 => 56 | 3 => 3 | 4 => 4 | 0 => 0 | 105 => 104 | 21 => 21 | 5 => 5 | 46 => 103 | 119 => 132 | 139 => 135 | 138 => 134 | 146 => 122 | 51 => 121 | n => n, fun | 1 => 0 | 3 => 4 | 4 => 5 | n => n⟩
theorem Tryd.lays146 : Go.Proofs.Lays.n146 Tryd.prog Tryd.lays146_ren := {
 mixed := by kernel_rfl
 f138 := Tryd.func64.trans (congrArg some (by kernel_rfl))
 f143 := Tryd.func65.trans (congrArg some (by kernel_rfl))
 f146 := Tryd.func29.trans (congrArg some (by kernel_rfl))
 f195 := Tryd.func86.trans (congrArg some (by kernel_rfl))
 f197 := Tryd.func87.trans (congrArg some (by kernel_rfl))
 f217 := Tryd.func82.trans (congrArg some (by kernel_rfl))
 f218 := Tryd.func88.trans (congrArg some (by kernel_rfl))
 f219 := Tryd.func62.trans (congrArg some (by kernel_rfl))
 f221 := Tryd.func46.trans (congrArg some (by kernel_rfl))
 f224 := Tryd.func84.trans (congrArg some (by kernel_rfl))
 f225 := Tryd.func83.trans (congrArg some (by kernel_rfl))
 f260 := Tryd.func100.trans (congrArg some (by kernel_rfl))
 f266 := Tryd.func98.trans (congrArg some (by kernel_rfl))
 f267 := Tryd.func85.trans (congrArg some (by kernel_rfl))
 f268 := Tryd.func63.trans (congrArg some (by kernel_rfl))
 f314 := Tryd.func99.trans (congrArg some (by kernel_rfl))
 t0 := Tryd.underlying0
 a0 := Tryd.isAgg0
 z0 := Tryd.sizeOf0
 v0 := Tryd.zeroValue0
 t3 := Tryd.underlying3
 a3 := Tryd.isAgg3
 z3 := Tryd.sizeOf3
 v3 := Tryd.zeroValue3
 t4 := Tryd.underlying4
 a4 := Tryd.isAgg4
 z4 := Tryd.sizeOf4
 v4 := Tryd.zeroValue4
 t5 := Tryd.underlying5
 a5 := Tryd.isAgg5
 z5 := Tryd.sizeOf5
 v5 := Tryd.zeroValue5
 t9 := Tryd.underlying9
 a9 := Tryd.isAgg9
 z9 := Tryd.sizeOf9
 v9 := Tryd.zeroValue9
 t21 := Tryd.underlying21
 a21 := Tryd.isAgg21
 z21 := Tryd.sizeOf21
 v21 := Tryd.zeroValue21
 t31 := Tryd.underlying56
 a31 := Tryd.isAgg56
 z31 := Tryd.sizeOf56
 v31 := Tryd.zeroValue56
 t46 := Tryd.underlying103
 a46 := Tryd.isAgg103
 z46 := Tryd.sizeOf103
 v46 := Tryd.zeroValue103
 t51 := Tryd.underlying121
 a51 := Tryd.isAgg121
 z51 := Tryd.sizeOf121
 v51 := Tryd.zeroValue121
 t105 := Tryd.underlying104
 a105 := Tryd.isAgg104
 z105 := Tryd.sizeOf104
 v105 := Tryd.zeroValue104
 t119 := Tryd.underlying132
 a119 := Tryd.isAgg132
 z119 := Tryd.sizeOf132
 t138 := Tryd.underlying134
 a138 := Tryd.isAgg134
 z138 := Tryd.sizeOf134
 v138 := Tryd.zeroValue134
 t139 := Tryd.underlying135
 a139 := Tryd.isAgg135
 z139 := Tryd.sizeOf135
 v139 := Tryd.zeroValue135
 t146 := Tryd.underlying122
 a146 := Tryd.isAgg122
 z146 := Tryd.sizeOf122
 v146 := Tryd.zeroValue122
 g1 := by kernel_rfl
 g3 := by kernel_rfl
 g4 := by kernel_rfl }
open Go.RowKit Go.Lib in
theorem Tryd.strings_Split (s sep : ByteArray) (m : Int) (w : World) (hs : s.size < 4294967281) (hm : w.cell? ⟨0, 0, none⟩ = some (.int .i64 m)) (h1 : 1 ≤ sep.size) :
  Calls Tryd.prog 29 #[.string s, .string sep] w fun e w' =>
   e = .returned (.slice (some ⟨w.heap.size, 0, none⟩) (Lib.countB s sep + 1) (Lib.countB s sep + 1)) ∧ w' = w.alloc (.cells ((Lib.splitB sep 0 (Lib.countB s sep) s).map Value.string).toArray 9) := Any.strings_Split Tryd.lays146 (by kernel_rfl) s sep m w hs hm h1
end Go.Proofs
