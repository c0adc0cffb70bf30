-- Written by this session's own programs; what the law does not lean on is left out. Lean checks it.
import Derived.Test.YtejgenhmhahgeaaDoorGS
import Derived.Test.YtejgenhmhahgeaaDoorGTx40
namespace Go.Proofs.YtejgenhmhahgeaaDoor.T
open Go.RowKit Go.Proofs.YtejgenhmhahgeaaDoorW.PrintWords Go.Proofs.YtejgenhmhahgeaaDoorW.PrintLast Go.Proofs.YtejgenhmhahgeaaDoorW.PrintMore
set_option linter.unusedVariables false
set_option linter.unusedSimpArgs false

def tariff_Total2.f (k : Nat) (a0_0 : ByteArray) (l0_1 : List S63) (a1_0 a1_1 : Int) : Option (Int × Int) := tariff_Total.f k a0_0 l0_1 [a1_0, a1_1]
theorem pair_reads {w : World} {g : Nat} {a b : Int} {t : TypeId} (h : w.heap[g]? = some (.cells #[.int .i64 a, .int .i64 b] t (0, 0))) : Kd.C (Kd.int .i64) w (some ⟨g, 0, none⟩) [a, b].length [a, b] := by
 refine ⟨rfl, (by decide : 2 ≤ 9223372036854775807), fun _ => ⟨_, rfl, fun j p hj => ?_⟩⟩
 match j, hj with
 | 0, hj =>
  obtain rfl := Option.some.inj hj
  refine ⟨[.int .i64 a], rfl, rfl, fun i u hu => ?_⟩
  match i, hu with
  | 0, hu => obtain rfl := Option.some.inj hu; exact (blk_cell h 0).trans rfl
 | 1, hj =>
  obtain rfl := Option.some.inj hj
  refine ⟨[.int .i64 b], rfl, rfl, fun i u hu => ?_⟩
  match i, hu with
  | 0, hu => obtain rfl := Option.some.inj hu; exact (blk_cell h 1).trans rfl
theorem tariff_Total2.calls (k : Nat) (a0_0 : ByteArray) (A0_1 : Option Addr) (c0_1 : Nat) (l0_1 : List S63) (a1_0 a1_1 : Int) {g : Nat} (r1 : Int) (r2 : Int) (w : World) (hr0_1 : Kd.C k63 w A0_1 l0_1.length l0_1) (hc0_1 : l0_1.length ≤ c0_1) (hgb : w.heap[g]? = some (.cells #[.int .i64 a1_0, .int .i64 a1_1] 46 (0, 0))) (h : tariff_Total2.f k a0_0 l0_1 a1_0 a1_1 = some (r1, r2)) :
  Calls Tryd.prog 26 #[.agg #[.string a0_0, .slice A0_1 l0_1.length c0_1], .slice (some ⟨g, 0, none⟩) 2 2] w fun e w' => e = .returned (.tuple #[.int .i64 r1, .int .i64 r2]) ∧ Below w.heap.size w w' :=
 tariff_Total.calls k a0_0 A0_1 c0_1 l0_1 (some ⟨g, 0, none⟩) 2 [a1_0, a1_1] r1 r2 w hr0_1 hc0_1 (pair_reads hgb) (Nat.le_refl _) h

end Go.Proofs.YtejgenhmhahgeaaDoor.T
