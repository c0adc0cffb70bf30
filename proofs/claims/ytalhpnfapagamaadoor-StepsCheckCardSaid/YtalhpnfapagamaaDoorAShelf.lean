-- Written by this session's own programs; what the law does not lean on is left out. Lean checks it.
import Derived.Shelf.Strconv.Itoa0
import Derived.Shelf.Strconv.Itoa1
import Derived.Shelf.LaysM
import Derived.Shelf.Strconv.Itoa2
import Derived.Shelf.Strconv.Itoa3
import Derived.Test.YtalhpnfapagamaaDoorProg
namespace Go.Proofs
open Go.Shelf
open Go.Lib in
open Go.Lib in
open Go.Lib in
open Go.Lib in
open Go.RowKit Go.Sort Go.Lib in
def Tryd.laysM246_ren : Go.Shelf.Ren := ⟨fun | 246 => 48 | 283 => 55 | 284 => 56 | 285 => 57 | 286 => 58 | 129 => 60 | 317 => 59 | 318 => 61 | 319 => 62 | 320 => 63 | 337 => 64 | 338 => 65 | n => n, fun | 2 => 2 | 3 => 3 | 9 => 9 | 4 => 4 | 171 => 89 | 0 => 0 | 53 => 90 | 37 => 82 | 5 => 5 | 173 => 93 | 212 => 97 | 51 => 98 | 20 => 20 | 213 => 99 | 46 => 100 | 232 => 103 | 233 => 104 | n => n, fun | 17 => 0 | 18 => 1 | 19 => 2 | n => n⟩
open Go.RowKit Go.Sort Go.Lib in
open Go.RowKit Go.Sort Go.Lib in
def Tryd.laysM243_ren : Go.Shelf.Ren := ⟨fun | 243 => 40 | 246 => 48 | 283 => 55 | 284 => 56 | 285 => 57 | 286 => 58 | 129 => 60 | 317 => 59 | 318 => 61 | 319 => 62 | 320 => 63 | 337 => 64 | 338 => 65 | n => n, fun | 3 => 3 | 9 => 9 | 2 => 2 | 4 => 4 | 171 => 89 | 0 => 0 | 53 => 90 | 37 => 82 | 5 => 5 | 173 => 93 | 212 => 97 | 51 => 98 | 20 => 20 | 213 => 99 | 46 => 100 | 232 => 103 | 233 => 104 | n => n, fun | 17 => 0 | 18 => 1 | 19 => 2 | n => n⟩
open Go.RowKit Go.Sort Go.Lib in
open Go.RowKit Go.Sort Go.Lib in
def Tryd.laysM171_ren : Go.Shelf.Ren := ⟨fun | 171 => 26 | 243 => 40 | 246 => 48 | 283 => 55 | 284 => 56 | 285 => 57 | 286 => 58 | 129 => 60 | 317 => 59 | 318 => 61 | 319 => 62 | 320 => 63 | 337 => 64 | 338 => 65 | n => n, fun | 3 => 3 | 9 => 9 | 2 => 2 | 4 => 4 | 171 => 89 | 0 => 0 | 53 => 90 | 37 => 82 | 5 => 5 | 173 => 93 | 212 => 97 | 51 => 98 | 20 => 20 | 213 => 99 | 46 => 100 | 232 => 103 | 233 => 104 | n => n, fun | 17 => 0 | 18 => 1 | 19 => 2 | n => n⟩
open Go.RowKit Go.Sort Go.Lib in
def Tryd.lays171_ren : Go.Shelf.Ren := ⟨fun | 171 => 26 | 243 => 40 | 246 => 48 | 283 => 55 | 284 => 56 | 285 => 57 | 286 => 58 | 129 => 60 | 317 => 59 | 318 => 61 | 319 => 62 | 320 => 63 | 337 => 64 | 338 => 65 | n => n, fun | 3 => 3 | 9 => 9 | 2 => 2 | 4 => 4 | 171 => 89 | 0 => 0 | 53 => 90 | 37 => 82 | 5 => 5 | 173 => 93 | 212 => 97 | 51 => 98 | 20 => 20 | 213 => 99 | 46 => 100 | 232 => 103 | 233 => 104 | n => n, fun | 17 => 0 | 18 => 1 | 19 => 2 | n => n⟩
theorem Tryd.lays171 : Go.Proofs.Lays.n171 Tryd.prog Tryd.lays171_ren := {
 mixed := by kernel_rfl
 f129 := Tryd.func60.trans (congrArg some (by kernel_rfl))
 f171 := Tryd.func26.trans (congrArg some (by kernel_rfl))
 f243 := Tryd.func40.trans (congrArg some (by kernel_rfl))
 f246 := Tryd.func48.trans (congrArg some (by kernel_rfl))
 f283 := Tryd.func55.trans (congrArg some (by kernel_rfl))
 f284 := Tryd.func56.trans (congrArg some (by kernel_rfl))
 f285 := Tryd.func57.trans (congrArg some (by kernel_rfl))
 f286 := Tryd.func58.trans (congrArg some (by kernel_rfl))
 f317 := Tryd.func59.trans (congrArg some (by kernel_rfl))
 f318 := Tryd.func61.trans (congrArg some (by kernel_rfl))
 f319 := Tryd.func62.trans (congrArg some (by kernel_rfl))
 f320 := Tryd.func63.trans (congrArg some (by kernel_rfl))
 f337 := Tryd.func64.trans (congrArg some (by kernel_rfl))
 f338 := Tryd.func65.trans (congrArg some (by kernel_rfl))
 t0 := Tryd.underlying0
 a0 := Tryd.isAgg0
 z0 := Tryd.sizeOf0
 v0 := Tryd.zeroValue0
 t2 := Tryd.underlying2
 a2 := Tryd.isAgg2
 z2 := Tryd.sizeOf2
 v2 := Tryd.zeroValue2
 t3 := Tryd.underlying3
 a3 := Tryd.isAgg3
 z3 := Tryd.sizeOf3
 v3 := Tryd.zeroValue3
 t4 := Tryd.underlying4
 a4 := Tryd.isAgg4
 z4 := Tryd.sizeOf4
 v4 := Tryd.zeroValue4
 t5 := Tryd.underlying5
 a5 := Tryd.isAgg5
 z5 := Tryd.sizeOf5
 v5 := Tryd.zeroValue5
 t9 := Tryd.underlying9
 a9 := Tryd.isAgg9
 z9 := Tryd.sizeOf9
 v9 := Tryd.zeroValue9
 t20 := Tryd.underlying20
 a20 := Tryd.isAgg20
 z20 := Tryd.sizeOf20
 v20 := Tryd.zeroValue20
 t37 := Tryd.underlying82
 a37 := Tryd.isAgg82
 z37 := Tryd.sizeOf82
 v37 := Tryd.zeroValue82
 t46 := Tryd.underlying100
 a46 := Tryd.isAgg100
 z46 := Tryd.sizeOf100
 v46 := Tryd.zeroValue100
 t51 := Tryd.underlying98
 a51 := Tryd.isAgg98
 z51 := Tryd.sizeOf98
 v51 := Tryd.zeroValue98
 t53 := Tryd.underlying90
 a53 := Tryd.isAgg90
 z53 := Tryd.sizeOf90
 v53 := Tryd.zeroValue90
 t171 := Tryd.underlying89
 a171 := Tryd.isAgg89
 z171 := Tryd.sizeOf89
 v171 := Tryd.zeroValue89
 t173 := Tryd.underlying93
 a173 := Tryd.isAgg93
 z173 := Tryd.sizeOf93
 v173 := Tryd.zeroValue93
 t212 := Tryd.underlying97
 a212 := Tryd.isAgg97
 z212 := Tryd.sizeOf97
 v212 := Tryd.zeroValue97
 t213 := Tryd.underlying99
 a213 := Tryd.isAgg99
 z213 := Tryd.sizeOf99
 t232 := Tryd.underlying103
 a232 := Tryd.isAgg103
 z232 := Tryd.sizeOf103
 v232 := Tryd.zeroValue103
 t233 := Tryd.underlying104
 a233 := Tryd.isAgg104
 z233 := Tryd.sizeOf104
 v233 := Tryd.zeroValue104
 g17 := by kernel_rfl
 g18 := by kernel_rfl
 g19 := by kernel_rfl }
open Go.RowKit Go.Sort Go.Lib in
theorem Tryd.strconv_Itoa_small (i : Nat) (hi : i < 100) (w : World) :
  Calls Tryd.prog 26 #[.int .i64 i] w fun e w' => e = .returned (.string ⟨(Lib.decDigits i).toArray⟩) ∧ w' = w := Any.strconv_Itoa_small Tryd.lays171 i hi w
end Go.Proofs
