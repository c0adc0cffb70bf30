-- Written by this session's own programs; what the law does not lean on is left out. Lean checks it.
import Derived.Shelf.Strings.Builder1
import Derived.Shelf.Strings.BuilderK
import Derived.Test.YthjmbagkomnpgaaDoorProg
namespace Go.Proofs
open Go.Shelf
def Tryd.lays166B_ren : Go.Shelf.Ren := ⟨fun | 166 => 40 | 240 => 49 | 276 => 60 | n => n, fun | 0 => 0 | 3 => 3 | 4 => 4 | 5 => 5 | 9 => 9 | 20 => 20 | 37 => 63 | 70 => 62 | 72 => 65 | 75 => 57 | 80 => 67 | 164 => 83 | n => n, fun | n => n⟩
theorem Tryd.lays166B : Go.Proofs.Lays.n166 Tryd.prog Tryd.lays166B_ren := {
 mixed := by kernel_rfl
 f166 := Tryd.func40.trans (congrArg some (by kernel_rfl))
 f240 := Tryd.func49.trans (congrArg some (by kernel_rfl))
 f276 := Tryd.func60.trans (congrArg some (by kernel_rfl))
 t0 := Tryd.underlying0
 a0 := Tryd.isAgg0
 z0 := Tryd.sizeOf0
 v0 := Tryd.zeroValue0
 t3 := Tryd.underlying3
 a3 := Tryd.isAgg3
 z3 := Tryd.sizeOf3
 v3 := Tryd.zeroValue3
 t4 := Tryd.underlying4
 a4 := Tryd.isAgg4
 z4 := Tryd.sizeOf4
 v4 := Tryd.zeroValue4
 t9 := Tryd.underlying9
 a9 := Tryd.isAgg9
 z9 := Tryd.sizeOf9
 v9 := Tryd.zeroValue9
 t20 := Tryd.underlying20
 a20 := Tryd.isAgg20
 z20 := Tryd.sizeOf20
 v20 := Tryd.zeroValue20
 t37 := Tryd.underlying63
 a37 := Tryd.isAgg63
 z37 := Tryd.sizeOf63
 v37 := Tryd.zeroValue63
 t70 := Tryd.underlying62
 a70 := Tryd.isAgg62
 z70 := Tryd.sizeOf62
 v70 := Tryd.zeroValue62
 t72 := Tryd.underlying65
 a72 := Tryd.isAgg65
 z72 := Tryd.sizeOf65
 v72 := Tryd.zeroValue65
 t75 := Tryd.underlying57
 a75 := Tryd.isAgg57
 z75 := Tryd.sizeOf57
 v75 := Tryd.zeroValue57
 t164 := Tryd.underlying83
 a164 := Tryd.isAgg83
 z164 := Tryd.sizeOf83
 v164 := Tryd.zeroValue83 }
theorem Tryd.Builder_Extra_166B : Builder.Extra Tryd.prog Tryd.lays166B_ren := {
 sizeBuilder := by kernel_rfl
 liesBuilder := by kernel_rfl
 t5 := Tryd.underlying5
 a5 := Tryd.isAgg5
 z5 := Tryd.sizeOf5
 v5 := Tryd.zeroValue5
 infoByte := by kernel_rfl
 cellsByte := by kernel_rfl
 sizeByte := by kernel_rfl
 neB5 := by decide }
def Tryd.lays167B_ren : Go.Shelf.Ren := ⟨fun | 167 => 39 | 240 => 49 | 276 => 60 | n => n, fun | 0 => 0 | 3 => 3 | 4 => 4 | 5 => 5 | 9 => 9 | 20 => 20 | 37 => 63 | 70 => 62 | 72 => 65 | 75 => 57 | 80 => 67 | 164 => 83 | n => n, fun | n => n⟩
theorem Tryd.lays167B : Go.Proofs.Lays.n167 Tryd.prog Tryd.lays167B_ren := {
 mixed := by kernel_rfl
 f167 := Tryd.func39.trans (congrArg some (by kernel_rfl))
 f240 := Tryd.func49.trans (congrArg some (by kernel_rfl))
 f276 := Tryd.func60.trans (congrArg some (by kernel_rfl))
 t0 := Tryd.underlying0
 a0 := Tryd.isAgg0
 z0 := Tryd.sizeOf0
 v0 := Tryd.zeroValue0
 t4 := Tryd.underlying4
 a4 := Tryd.isAgg4
 z4 := Tryd.sizeOf4
 v4 := Tryd.zeroValue4
 t5 := Tryd.underlying5
 a5 := Tryd.isAgg5
 z5 := Tryd.sizeOf5
 v5 := Tryd.zeroValue5
 t9 := Tryd.underlying9
 a9 := Tryd.isAgg9
 z9 := Tryd.sizeOf9
 v9 := Tryd.zeroValue9
 t20 := Tryd.underlying20
 a20 := Tryd.isAgg20
 z20 := Tryd.sizeOf20
 v20 := Tryd.zeroValue20
 t37 := Tryd.underlying63
 a37 := Tryd.isAgg63
 z37 := Tryd.sizeOf63
 v37 := Tryd.zeroValue63
 t70 := Tryd.underlying62
 a70 := Tryd.isAgg62
 z70 := Tryd.sizeOf62
 v70 := Tryd.zeroValue62
 t72 := Tryd.underlying65
 a72 := Tryd.isAgg65
 z72 := Tryd.sizeOf65
 v72 := Tryd.zeroValue65
 t75 := Tryd.underlying57
 a75 := Tryd.isAgg57
 z75 := Tryd.sizeOf57
 v75 := Tryd.zeroValue57
 t164 := Tryd.underlying83
 a164 := Tryd.isAgg83
 z164 := Tryd.sizeOf83
 v164 := Tryd.zeroValue83 }
theorem Tryd.Builder_Extra_167B : Builder.Extra Tryd.prog Tryd.lays167B_ren := {
 sizeBuilder := by kernel_rfl
 liesBuilder := by kernel_rfl
 t5 := Tryd.underlying5
 a5 := Tryd.isAgg5
 z5 := Tryd.sizeOf5
 v5 := Tryd.zeroValue5
 infoByte := by kernel_rfl
 cellsByte := by kernel_rfl
 sizeByte := by kernel_rfl
 neB5 := by decide }
open Go.RowKit in
theorem Tryd.Builder_WriteByte_kB (B b : Nat) (bs : List Value) (c : Int) (w : World) (h : Lib.IsBuilderF 65 5 B b bs w) (hlen : bs.length + 1 ≤ 140737488355328) (hBw : B ≤ w.heap.size) :
  Calls Tryd.prog 39 #[.pointer (some ⟨b, 0, none⟩), .int .u8 c] w fun e w' => e = .returned .nilIface ∧ (Lib.BuilderAtF 65 5 B b (.pointer (some ⟨b, 0, none⟩)) (bs ++ [.int .u8 c]) w' ∧ Below B w w' ∧ Lib.OthersKept 5 (some b) w w') := Any.Builder_WriteByte_k Tryd.lays167B Tryd.Builder_Extra_167B B b bs c w h hlen hBw
open Go.RowKit in
theorem Tryd.Builder_WriteString_kB (B b : Nat) (bs : List Value) (s : ByteArray) (w : World) (h : Lib.IsBuilderF 65 5 B b bs w) (hlen : bs.length + s.size ≤ 140737488355328) (hBw : B ≤ w.heap.size) :
  Calls Tryd.prog 40 #[.pointer (some ⟨b, 0, none⟩), .string s] w fun e w' => e = .returned (.tuple #[.int .i64 s.size, .nilIface]) ∧ (Lib.BuilderAtF 65 5 B b (.pointer (some ⟨b, 0, none⟩)) (bs ++ Lib.byteCells s.data.toList) w' ∧ Below B w w' ∧ Lib.OthersKept 5 (some b) w w') := Any.Builder_WriteString_k Tryd.lays166B Tryd.Builder_Extra_166B B b bs s w h hlen hBw
def Tryd.lays169Z_ren : Go.Shelf.Ren := ⟨fun | 169 => 41 | n => n, fun | 70 => 62 | 9 => 9 | 0 => 0 | 72 => 65 | 37 => 63 | 127 => 70 | 3 => 3 | 5 => 5 | n => n, fun | n => n⟩
theorem Tryd.lays169Z : Go.Proofs.Lays.n169 Tryd.prog Tryd.lays169Z_ren := {
 mixed := by kernel_rfl
 f169 := Tryd.func41.trans (congrArg some (by kernel_rfl))
 t0 := Tryd.underlying0
 a0 := Tryd.isAgg0
 z0 := Tryd.sizeOf0
 v0 := Tryd.zeroValue0
 t3 := Tryd.underlying3
 a3 := Tryd.isAgg3
 z3 := Tryd.sizeOf3
 v3 := Tryd.zeroValue3
 t9 := Tryd.underlying9
 a9 := Tryd.isAgg9
 z9 := Tryd.sizeOf9
 v9 := Tryd.zeroValue9
 t37 := Tryd.underlying63
 a37 := Tryd.isAgg63
 z37 := Tryd.sizeOf63
 v37 := Tryd.zeroValue63
 t70 := Tryd.underlying62
 a70 := Tryd.isAgg62
 z70 := Tryd.sizeOf62
 v70 := Tryd.zeroValue62
 t72 := Tryd.underlying65
 a72 := Tryd.isAgg65
 z72 := Tryd.sizeOf65
 v72 := Tryd.zeroValue65
 t127 := Tryd.underlying70
 a127 := Tryd.isAgg70
 z127 := Tryd.sizeOf70
 v127 := Tryd.zeroValue70 }
theorem Tryd.Builder_Extra_169Z : Builder.Extra Tryd.prog Tryd.lays169Z_ren := {
 sizeBuilder := by kernel_rfl
 liesBuilder := by kernel_rfl
 t5 := Tryd.underlying5
 a5 := Tryd.isAgg5
 z5 := Tryd.sizeOf5
 v5 := Tryd.zeroValue5
 infoByte := by kernel_rfl
 cellsByte := by kernel_rfl
 sizeByte := by kernel_rfl
 neB5 := by decide }
open Go.RowKit in
theorem Tryd.Builder_String_any_kB (B b : Nat) (l : List UInt8) (w : World) (h : Lib.IsBuilderF 65 5 B b (Lib.byteCells l) w) (hBw : B ≤ w.heap.size) :
  Calls Tryd.prog 41 #[.pointer (some ⟨b, 0, none⟩)] w fun e w' => e = .returned (.string ⟨l.toArray⟩) ∧ (Lib.IsBuilderF 65 5 B b (Lib.byteCells l) w' ∧ Below B w w' ∧ Lib.OthersKept 5 (some b) w w') := Any.Builder_String_any_k Tryd.lays169Z Tryd.Builder_Extra_169Z B b l w h hBw
end Go.Proofs
