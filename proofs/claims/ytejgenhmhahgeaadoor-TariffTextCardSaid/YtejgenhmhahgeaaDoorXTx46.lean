-- Written by this session's own programs; what the law does not lean on is left out. Lean checks it.
import Derived.Test.YtejgenhmhahgeaaDoorXS
namespace Go.Proofs.YtejgenhmhahgeaaDoor.T
open Go.RowKit Go.Proofs.YtejgenhmhahgeaaDoorW.PrintWords Go.Proofs.YtejgenhmhahgeaaDoorW.PrintLast Go.Proofs.YtejgenhmhahgeaaDoorW.PrintMore
set_option linter.unusedVariables false
set_option linter.unusedSimpArgs false

mutual
def culetref44_Itoa.l0 : Nat → Int → ByteArray → Option (ByteArray)
 | 0, _, _ => none
 | k + 1, x0, x3 => if x0 > 0 then ((some (([(wrap64 (48 + (Int.tmod x0 10))) % 256] : List Int) : List Int)).bind fun y326 => (if (strOfNums y326).size + x3.size ≤ 9223372036854775807 then (culetref44_Itoa.l0 k (wrap64 (Int.tdiv x0 10)) ((strOfNums y326) ++ x3)) else (none))) else (some x3)
def culetref44_Itoa.f : Nat → Int → Option (ByteArray)
 | 0, _ => none
 | k + 1, a0 => if a0 < 0 then (if a0 < (-9) then ((culetref44_Itoa.f k (wrap64 (Int.tdiv a0 10))).bind fun t320 => ((culetref44_Itoa.f k (wrap64 (-(Int.tmod a0 10)))).bind fun t321 => (if t320.size + t321.size ≤ 9223372036854775807 then (some (t320 ++ t321)) else (none)))) else ((culetref44_Itoa.f k (wrap64 (-a0))).bind fun t322 => (if 1 + t322.size ≤ 9223372036854775807 then (some ((⟨#[45]⟩ : ByteArray) ++ t322)) else (none)))) else (culetref44_Itoa.l0 k (wrap64 (Int.tdiv a0 10)) (strOfNums (([(wrap64 (48 + (Int.tmod a0 10))) % 256] : List Int))))
end
end Go.Proofs.YtejgenhmhahgeaaDoor.T
