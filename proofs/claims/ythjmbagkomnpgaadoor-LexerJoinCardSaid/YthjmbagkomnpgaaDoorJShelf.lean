-- Written by this session's own programs; what the law does not lean on is left out. Lean checks it.
import Derived.Shelf.Small.Utf8
import Derived.Shelf.Small.Strs
import Derived.Shelf.Strconv.Atoi
import Derived.Shelf.Strings.Search1
import Derived.Shelf.Strings.Runes
import Derived.Shelf.Strings.IndexAny
import Derived.Shelf.Strings.AsciiSet
import Derived.Shelf.Strings.IndexAnyAll
import Derived.Test.YthjmbagkomnpgaaDoorProg
namespace Go.Proofs
open Go.Shelf
def Tryd.lays119_ren : Go.Shelf.Ren := ⟨fun | 119 => 62 | n => n, fun | 21 => 21 | 4 => 4 | n => n, fun | n => n⟩
theorem Tryd.lays119 : Go.Proofs.Lays.n119 Tryd.prog Tryd.lays119_ren := {
 mixed := by kernel_rfl
 f119 := Tryd.func62.trans (congrArg some (by kernel_rfl))
 t4 := Tryd.underlying4
 a4 := Tryd.isAgg4
 z4 := Tryd.sizeOf4
 v4 := Tryd.zeroValue4
 t21 := Tryd.underlying21
 a21 := Tryd.isAgg21
 z21 := Tryd.sizeOf21
 v21 := Tryd.zeroValue21 }
theorem Tryd.utf8_ValidRune (r : Int) (w : World) :
  Calls Tryd.prog 62 #[.int .i32 r] w fun e w' => e = .returned (.bool (Lib.validRune r)) ∧ w' = w := Any.utf8_ValidRune Tryd.lays119 r w
def Tryd.lays137_ren : Go.Shelf.Ren := ⟨fun | 137 => 61 | 217 => 69 | 266 => 73 | n => n, fun | 9 => 9 | 5 => 5 | 3 => 3 | n => n, fun | n => n⟩
theorem Tryd.lays137 : Go.Proofs.Lays.n137 Tryd.prog Tryd.lays137_ren := {
 mixed := by kernel_rfl
 f137 := Tryd.func61.trans (congrArg some (by kernel_rfl))
 f217 := Tryd.func69.trans (congrArg some (by kernel_rfl))
 f266 := Tryd.func73.trans (congrArg some (by kernel_rfl))
 t3 := Tryd.underlying3
 a3 := Tryd.isAgg3
 z3 := Tryd.sizeOf3
 v3 := Tryd.zeroValue3
 t5 := Tryd.underlying5
 a5 := Tryd.isAgg5
 z5 := Tryd.sizeOf5
 v5 := Tryd.zeroValue5
 t9 := Tryd.underlying9
 a9 := Tryd.isAgg9
 z9 := Tryd.sizeOf9
 v9 := Tryd.zeroValue9 }
open Go.RowKit in
theorem Tryd.strings_IndexByte (s : ByteArray) (c : Int) (w : World) :
  Calls Tryd.prog 61 #[.string s, .int .u8 c] w fun e w' => e = .returned (.int .i64 (Lib.indexByte s.data.toList c.toNat.toUInt8)) ∧ w' = w := Any.strings_IndexByte Tryd.lays137 s c w
def Tryd.lays172_ren : Go.Shelf.Ren := ⟨fun | 172 => 35 | 244 => 45 | 245 => 46 | 247 => 55 | 279 => 56 | 280 => 57 | 281 => 58 | 282 => 59 | 287 => 65 | 316 => 66 | 171 => 68 | 205 => 67 | 321 => 70 | 322 => 71 | 243 => 72 | 246 => 74 | 283 => 75 | 284 => 76 | 285 => 77 | 286 => 78 | 129 => 80 | 317 => 79 | 318 => 81 | 319 => 82 | 320 => 83 | 337 => 84 | 338 => 85 | n => n, fun | 9 => 9 | 3 => 3 | 75 => 57 | 76 => 58 | 4 => 4 | 5 => 5 | 167 => 77 | 37 => 63 | 0 => 0 | 85 => 78 | 2 => 2 | 168 => 80 | 53 => 90 | 175 => 91 | 46 => 88 | 210 => 95 | 127 => 70 | 145 => 101 | 143 => 99 | 21 => 21 | 171 => 103 | 173 => 106 | 212 => 109 | 51 => 110 | 20 => 20 | 213 => 111 | 232 => 114 | 233 => 115 | 80 => 67 | n => n, fun | 15 => 0 | 16 => 1 | 17 => 3 | 18 => 4 | 19 => 5 | n => n⟩
theorem Tryd.lays172 : Go.Proofs.Lays.n172 Tryd.prog Tryd.lays172_ren := {
 mixed := by kernel_rfl
 f129 := Tryd.func80.trans (congrArg some (by kernel_rfl))
 f171 := Tryd.func68.trans (congrArg some (by kernel_rfl))
 f172 := Tryd.func35.trans (congrArg some (by kernel_rfl))
 f205 := Tryd.func67.trans (congrArg some (by kernel_rfl))
 f243 := Tryd.func72.trans (congrArg some (by kernel_rfl))
 f244 := Tryd.func45.trans (congrArg some (by kernel_rfl))
 f245 := Tryd.func46.trans (congrArg some (by kernel_rfl))
 f246 := Tryd.func74.trans (congrArg some (by kernel_rfl))
 f247 := Tryd.func55.trans (congrArg some (by kernel_rfl))
 f279 := Tryd.func56.trans (congrArg some (by kernel_rfl))
 f280 := Tryd.func57.trans (congrArg some (by kernel_rfl))
 f281 := Tryd.func58.trans (congrArg some (by kernel_rfl))
 f282 := Tryd.func59.trans (congrArg some (by kernel_rfl))
 f283 := Tryd.func75.trans (congrArg some (by kernel_rfl))
 f284 := Tryd.func76.trans (congrArg some (by kernel_rfl))
 f285 := Tryd.func77.trans (congrArg some (by kernel_rfl))
 f286 := Tryd.func78.trans (congrArg some (by kernel_rfl))
 f287 := Tryd.func65.trans (congrArg some (by kernel_rfl))
 f316 := Tryd.func66.trans (congrArg some (by kernel_rfl))
 f317 := Tryd.func79.trans (congrArg some (by kernel_rfl))
 f318 := Tryd.func81.trans (congrArg some (by kernel_rfl))
 f319 := Tryd.func82.trans (congrArg some (by kernel_rfl))
 f320 := Tryd.func83.trans (congrArg some (by kernel_rfl))
 f321 := Tryd.func70.trans (congrArg some (by kernel_rfl))
 f322 := Tryd.func71.trans (congrArg some (by kernel_rfl))
 f337 := Tryd.func84.trans (congrArg some (by kernel_rfl))
 f338 := Tryd.func85.trans (congrArg some (by kernel_rfl))
 t0 := Tryd.underlying0
 a0 := Tryd.isAgg0
 z0 := Tryd.sizeOf0
 v0 := Tryd.zeroValue0
 t2 := Tryd.underlying2
 a2 := Tryd.isAgg2
 z2 := Tryd.sizeOf2
 v2 := Tryd.zeroValue2
 t3 := Tryd.underlying3
 a3 := Tryd.isAgg3
 z3 := Tryd.sizeOf3
 v3 := Tryd.zeroValue3
 t4 := Tryd.underlying4
 a4 := Tryd.isAgg4
 z4 := Tryd.sizeOf4
 v4 := Tryd.zeroValue4
 t5 := Tryd.underlying5
 a5 := Tryd.isAgg5
 z5 := Tryd.sizeOf5
 v5 := Tryd.zeroValue5
 t9 := Tryd.underlying9
 a9 := Tryd.isAgg9
 z9 := Tryd.sizeOf9
 v9 := Tryd.zeroValue9
 t20 := Tryd.underlying20
 a20 := Tryd.isAgg20
 z20 := Tryd.sizeOf20
 v20 := Tryd.zeroValue20
 t21 := Tryd.underlying21
 a21 := Tryd.isAgg21
 z21 := Tryd.sizeOf21
 v21 := Tryd.zeroValue21
 t37 := Tryd.underlying63
 a37 := Tryd.isAgg63
 z37 := Tryd.sizeOf63
 v37 := Tryd.zeroValue63
 t46 := Tryd.underlying88
 a46 := Tryd.isAgg88
 z46 := Tryd.sizeOf88
 v46 := Tryd.zeroValue88
 t51 := Tryd.underlying110
 a51 := Tryd.isAgg110
 z51 := Tryd.sizeOf110
 v51 := Tryd.zeroValue110
 t53 := Tryd.underlying90
 a53 := Tryd.isAgg90
 z53 := Tryd.sizeOf90
 v53 := Tryd.zeroValue90
 t75 := Tryd.underlying57
 a75 := Tryd.isAgg57
 z75 := Tryd.sizeOf57
 v75 := Tryd.zeroValue57
 t76 := Tryd.underlying58
 a76 := Tryd.isAgg58
 z76 := Tryd.sizeOf58
 v76 := Tryd.zeroValue58
 t85 := Tryd.underlying78
 a85 := Tryd.isAgg78
 z85 := Tryd.sizeOf78
 v85 := Tryd.zeroValue78
 t127 := Tryd.underlying70
 a127 := Tryd.isAgg70
 z127 := Tryd.sizeOf70
 v127 := Tryd.zeroValue70
 t143 := Tryd.underlying99
 a143 := Tryd.isAgg99
 z143 := Tryd.sizeOf99
 v143 := Tryd.zeroValue99
 t145 := Tryd.underlying101
 a145 := Tryd.isAgg101
 z145 := Tryd.sizeOf101
 v145 := Tryd.zeroValue101
 t167 := Tryd.underlying77
 a167 := Tryd.isAgg77
 z167 := Tryd.sizeOf77
 v167 := Tryd.zeroValue77
 t168 := Tryd.underlying80
 a168 := Tryd.isAgg80
 z168 := Tryd.sizeOf80
 v168 := Tryd.zeroValue80
 t171 := Tryd.underlying103
 a171 := Tryd.isAgg103
 z171 := Tryd.sizeOf103
 v171 := Tryd.zeroValue103
 t173 := Tryd.underlying106
 a173 := Tryd.isAgg106
 z173 := Tryd.sizeOf106
 v173 := Tryd.zeroValue106
 t175 := Tryd.underlying91
 a175 := Tryd.isAgg91
 z175 := Tryd.sizeOf91
 v175 := Tryd.zeroValue91
 t210 := Tryd.underlying95
 a210 := Tryd.isAgg95
 z210 := Tryd.sizeOf95
 v210 := Tryd.zeroValue95
 t212 := Tryd.underlying109
 a212 := Tryd.isAgg109
 z212 := Tryd.sizeOf109
 v212 := Tryd.zeroValue109
 t213 := Tryd.underlying111
 a213 := Tryd.isAgg111
 z213 := Tryd.sizeOf111
 t232 := Tryd.underlying114
 a232 := Tryd.isAgg114
 z232 := Tryd.sizeOf114
 v232 := Tryd.zeroValue114
 t233 := Tryd.underlying115
 a233 := Tryd.isAgg115
 z233 := Tryd.sizeOf115
 v233 := Tryd.zeroValue115
 g15 := by kernel_rfl
 g16 := by kernel_rfl
 g17 := by kernel_rfl
 g18 := by kernel_rfl
 g19 := by kernel_rfl }
open Go.RowKit in
theorem Tryd.strconv_Atoi (s : ByteArray) (n : Int) (hl : s.size ≤ 18) (h : Lib.atoi s.data.toList = some n) (w : World) :
  Calls Tryd.prog 35 #[.string s] w fun e w' => e = .returned (.tuple #[.int .i64 n, .nilIface]) ∧ ∃ t, w' = Lib.bytesWorld w 5 t := Any.strconv_Atoi Tryd.lays172 s n hl h w
def Tryd.lays152_ren : Go.Shelf.Ren := ⟨fun | 152 => 50 | 137 => 61 | 119 => 62 | 224 => 63 | 225 => 64 | 217 => 69 | 266 => 73 | n => n, fun | 9 => 9 | 21 => 21 | 3 => 3 | 4 => 4 | 5 => 5 | 0 => 0 | 46 => 88 | n => n, fun | n => n⟩
theorem Tryd.lays152 : Go.Proofs.Lays.n152 Tryd.prog Tryd.lays152_ren := {
 mixed := by kernel_rfl
 f119 := Tryd.func62.trans (congrArg some (by kernel_rfl))
 f137 := Tryd.func61.trans (congrArg some (by kernel_rfl))
 f152 := Tryd.func50.trans (congrArg some (by kernel_rfl))
 f217 := Tryd.func69.trans (congrArg some (by kernel_rfl))
 f224 := Tryd.func63.trans (congrArg some (by kernel_rfl))
 f225 := Tryd.func64.trans (congrArg some (by kernel_rfl))
 f266 := Tryd.func73.trans (congrArg some (by kernel_rfl))
 t0 := Tryd.underlying0
 a0 := Tryd.isAgg0
 z0 := Tryd.sizeOf0
 v0 := Tryd.zeroValue0
 t3 := Tryd.underlying3
 a3 := Tryd.isAgg3
 z3 := Tryd.sizeOf3
 v3 := Tryd.zeroValue3
 t4 := Tryd.underlying4
 a4 := Tryd.isAgg4
 z4 := Tryd.sizeOf4
 v4 := Tryd.zeroValue4
 t5 := Tryd.underlying5
 a5 := Tryd.isAgg5
 z5 := Tryd.sizeOf5
 v5 := Tryd.zeroValue5
 t9 := Tryd.underlying9
 a9 := Tryd.isAgg9
 z9 := Tryd.sizeOf9
 v9 := Tryd.zeroValue9
 t21 := Tryd.underlying21
 a21 := Tryd.isAgg21
 z21 := Tryd.sizeOf21
 v21 := Tryd.zeroValue21
 t46 := Tryd.underlying88
 a46 := Tryd.isAgg88
 z46 := Tryd.sizeOf88
 v46 := Tryd.zeroValue88 }
open Go.RowKit Go.Lib in
theorem Tryd.strings_IndexRune_ascii (s : ByteArray) (r : Int) (w : World) (h0 : 0 ≤ r) (h1 : r < 128) :
  Calls Tryd.prog 50 #[.string s, .int .i32 r] w fun e w' => e = .returned (.int .i64 (Lib.indexByte s.data.toList r.toNat.toUInt8)) ∧ w' = w := Any.strings_IndexRune_ascii Tryd.lays152 s r w h0 h1
def Tryd.lays226_ren : Go.Shelf.Ren := ⟨fun | 226 => 51 | n => n, fun | 3 => 3 | 4 => 4 | n => n, fun | n => n⟩
theorem Tryd.lays226 : Go.Proofs.Lays.n226 Tryd.prog Tryd.lays226_ren := {
 mixed := by kernel_rfl
 f226 := Tryd.func51.trans (congrArg some (by kernel_rfl))
 t3 := Tryd.underlying3
 a3 := Tryd.isAgg3
 z3 := Tryd.sizeOf3
 v3 := Tryd.zeroValue3
 t4 := Tryd.underlying4
 a4 := Tryd.isAgg4
 z4 := Tryd.sizeOf4
 v4 := Tryd.zeroValue4 }
open Go.RowKit Go.Lib in
theorem Tryd.strings_shouldUseASCIISet (n : Int) (w : World) :
  Calls Tryd.prog 51 #[.int .i64 n] w fun e w' => e = .returned (.bool (decide (8 < n))) ∧ w' = w := Any.strings_shouldUseASCIISet Tryd.lays226 n w
def Tryd.lays153_ren : Go.Shelf.Ren := ⟨fun | 153 => 42 | 152 => 50 | 226 => 51 | 227 => 52 | 228 => 53 | 137 => 61 | 119 => 62 | 224 => 63 | 225 => 64 | 217 => 69 | 266 => 73 | n => n, fun | 9 => 9 | 3 => 3 | 4 => 4 | 5 => 5 | 21 => 21 | 117 => 75 | 116 => 74 | 0 => 0 | 46 => 88 | 124 => 89 | n => n, fun | n => n⟩
theorem Tryd.lays153 : Go.Proofs.Lays.n153 Tryd.prog Tryd.lays153_ren := {
 mixed := by kernel_rfl
 f119 := Tryd.func62.trans (congrArg some (by kernel_rfl))
 f137 := Tryd.func61.trans (congrArg some (by kernel_rfl))
 f152 := Tryd.func50.trans (congrArg some (by kernel_rfl))
 f153 := Tryd.func42.trans (congrArg some (by kernel_rfl))
 f217 := Tryd.func69.trans (congrArg some (by kernel_rfl))
 f224 := Tryd.func63.trans (congrArg some (by kernel_rfl))
 f225 := Tryd.func64.trans (congrArg some (by kernel_rfl))
 f226 := Tryd.func51.trans (congrArg some (by kernel_rfl))
 f227 := Tryd.func52.trans (congrArg some (by kernel_rfl))
 f228 := Tryd.func53.trans (congrArg some (by kernel_rfl))
 f266 := Tryd.func73.trans (congrArg some (by kernel_rfl))
 t0 := Tryd.underlying0
 a0 := Tryd.isAgg0
 z0 := Tryd.sizeOf0
 v0 := Tryd.zeroValue0
 t3 := Tryd.underlying3
 a3 := Tryd.isAgg3
 z3 := Tryd.sizeOf3
 v3 := Tryd.zeroValue3
 t4 := Tryd.underlying4
 a4 := Tryd.isAgg4
 z4 := Tryd.sizeOf4
 v4 := Tryd.zeroValue4
 t5 := Tryd.underlying5
 a5 := Tryd.isAgg5
 z5 := Tryd.sizeOf5
 v5 := Tryd.zeroValue5
 t9 := Tryd.underlying9
 a9 := Tryd.isAgg9
 z9 := Tryd.sizeOf9
 v9 := Tryd.zeroValue9
 t21 := Tryd.underlying21
 a21 := Tryd.isAgg21
 z21 := Tryd.sizeOf21
 v21 := Tryd.zeroValue21
 t46 := Tryd.underlying88
 a46 := Tryd.isAgg88
 z46 := Tryd.sizeOf88
 v46 := Tryd.zeroValue88
 t116 := Tryd.underlying74
 a116 := Tryd.isAgg74
 z116 := Tryd.sizeOf74
 t117 := Tryd.underlying75
 a117 := Tryd.isAgg75
 z117 := Tryd.sizeOf75
 v117 := Tryd.zeroValue75
 t124 := Tryd.underlying89
 a124 := Tryd.isAgg89
 z124 := Tryd.sizeOf89
 v124 := Tryd.zeroValue89 }
open Go.RowKit Go.Lib in
theorem Tryd.strings_IndexAny_long (hv116 : ∀ w, (zeroValue 74).run Tryd.prog w = .ok (.agg (Array.replicate 256 (.bool false))) w) (s chars : ByteArray) (w : World) (h2 : 2 ≤ chars.size) (h8 : 8 < s.size) (hs : s.size < 4294967281) (hcs : chars.size < 4294967281) (hascii : ∀ (j : Nat) b, chars.data.toList[j]? = some b → b.toNat < 128) :
  Calls Tryd.prog 42 #[.string s, .string chars] w fun e w' => e = .returned (.int .i64 (Lib.indexAny s.data.toList chars.data.toList)) ∧ w' = ((w.alloc (.cells (Lib.setCells chars.data.toList) 74)).alloc (.cells (Lib.setCells chars.data.toList) 74)) := Any.strings_IndexAny_long Tryd.lays153 hv116 (by kernel_rfl) s chars w h2 h8 hs hcs hascii
end Go.Proofs
