-- Written by this session's own programs; what the law does not lean on is left out. Lean checks it.
import Derived.Test.YtejgenhmhahgeaaDoorXS
import Derived.Test.YtejgenhmhahgeaaDoorXTx36
import Derived.Test.YtejgenhmhahgeaaDoorXTx46
namespace Go.Proofs.YtejgenhmhahgeaaDoor.T
open Go.RowKit Go.Proofs.YtejgenhmhahgeaaDoorW.PrintWords Go.Proofs.YtejgenhmhahgeaaDoorW.PrintLast Go.Proofs.YtejgenhmhahgeaaDoorW.PrintMore
set_option linter.unusedVariables false
set_option linter.unusedSimpArgs false

def culetref44_Print.l0 : Nat → ByteArray → Int → ByteArray → List (S42) → Option (ByteArray × Int)
 | 0, _, _, _, _ => none
 | k + 1, x4, x5, x330000, x330001 => if x5 < (x330001.length : Int) then (if x5 > 0 then (if x4.size + 1 ≤ 9223372036854775807 then (if 0 ≤ x5 then ((culetref44_Itoa.f k ((rd_T42 x330001 x5).f0)).bind fun t332 => (if 1 + t332.size ≤ 9223372036854775807 then (if ((⟨#[32]⟩ : ByteArray) ++ t332).size + 1 ≤ 9223372036854775807 then ((culetref44_Itoa.f k ((rd_T42 x330001 x5).f1)).bind fun t334 => (if (((⟨#[32]⟩ : ByteArray) ++ t332) ++ (⟨#[64]⟩ : ByteArray)).size + t334.size ≤ 9223372036854775807 then (if (x4 ++ (⟨#[44]⟩ : ByteArray)).size + ((((⟨#[32]⟩ : ByteArray) ++ t332) ++ (⟨#[64]⟩ : ByteArray)) ++ t334).size ≤ 9223372036854775807 then (culetref44_Print.l0 k ((x4 ++ (⟨#[44]⟩ : ByteArray)) ++ ((((⟨#[32]⟩ : ByteArray) ++ t332) ++ (⟨#[64]⟩ : ByteArray)) ++ t334)) (wrap64 (x5 + 1)) x330000 x330001) else (none)) else (none))) else (none)) else (none))) else (none)) else (none)) else (if 0 ≤ x5 then ((culetref44_Itoa.f k ((rd_T42 x330001 x5).f0)).bind fun t336 => (if 1 + t336.size ≤ 9223372036854775807 then (if ((⟨#[32]⟩ : ByteArray) ++ t336).size + 1 ≤ 9223372036854775807 then ((culetref44_Itoa.f k ((rd_T42 x330001 x5).f1)).bind fun t338 => (if (((⟨#[32]⟩ : ByteArray) ++ t336) ++ (⟨#[64]⟩ : ByteArray)).size + t338.size ≤ 9223372036854775807 then (if x4.size + ((((⟨#[32]⟩ : ByteArray) ++ t336) ++ (⟨#[64]⟩ : ByteArray)) ++ t338).size ≤ 9223372036854775807 then (culetref44_Print.l0 k (x4 ++ ((((⟨#[32]⟩ : ByteArray) ++ t336) ++ (⟨#[64]⟩ : ByteArray)) ++ t338)) (wrap64 (x5 + 1)) x330000 x330001) else (none)) else (none))) else (none)) else (none))) else (none))) else (some (x4, 0))
end Go.Proofs.YtejgenhmhahgeaaDoor.T
