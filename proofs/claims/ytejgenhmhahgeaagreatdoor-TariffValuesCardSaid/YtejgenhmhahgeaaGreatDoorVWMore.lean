-- Written by this session's own programs; what the law does not lean on is left out. Lean checks it.
import Derived.Test.YtejgenhmhahgeaaGreatDoorVWWords
import Derived.Test.YtejgenhmhahgeaaGreatDoorVWLast
import Derived.Test.YtejgenhmhahgeaaGreatDoorVWQPut
import Derived.Test.YtejgenhmhahgeaaGreatDoorVWApart
import Derived.Test.YtejgenhmhahgeaaGreatDoorVWZeros
import Derived.Test.YtejgenhmhahgeaaGreatDoorVWFoot
import Derived.Test.YtejgenhmhahgeaaGreatDoorVWKept
import Derived.Test.YtejgenhmhahgeaaGreatDoorVWNEv
namespace Go.Proofs.YtejgenhmhahgeaaGreatDoorW.PrintMore
open Go.RowKit Go.Proofs.YtejgenhmhahgeaaGreatDoorW.PrintWords
namespace Kd
end Kd

namespace Kd
end Kd
theorem max2_int (k k' : IntKind) (x y : Int) : Builtin.max2 (.int k x) (.int k' y) = pure (.int k (if x < y then y else x)) := by simp only [Builtin.max2, gt_iff_lt]
theorem max_two (ats : Array TypeId) (ty : TypeId) (a b : Value) : Builtin.max_ ats ty #[a, b] = (Builtin.max2 a b >>= fun s => pure s) := by simp only [Builtin.max_, List.foldlM_cons, List.foldlM_nil]
end Go.Proofs.YtejgenhmhahgeaaGreatDoorW.PrintMore
namespace Go.Proofs.YtejgenhmhahgeaaGreatDoorW.PrintWords
open Go.RowKit
section
variable {P : Program} {ops : Array Oper} {rest : List Oper} {o : Oper} {a : Act} {Q : Exit → Act → World → Prop} {W : World}
theorem gate_callee {f : FuncId} {as : Array Operand} {ts : Array TypeId} (_ho : o.op = .call { callee := .value (.func f), args := as, argTypes := ts }) (h : wpList P ops Q (o :: rest) a W) : wpList P ops Q (o :: rest) a W := h
theorem gate_builtin {b : Builtin} {xs : Array Operand} {ts : Array TypeId} (_ho : o.op = .call { callee := .builtin b, args := xs, argTypes := ts }) (h : wpList P ops Q (o :: rest) a W) : wpList P ops Q (o :: rest) a W := h
end
/-- The greater of two whole numbers, as Go's max tells it. -/
def mx (a b : Int) : Int := if a < b then b else a
theorem drewN_self (w : World) (n : Nat) : w.drewN n = w.drewN n := rfl
namespace Kd
end Kd
end Go.Proofs.YtejgenhmhahgeaaGreatDoorW.PrintWords
namespace Go.Proofs.YtejgenhmhahgeaaGreatDoorW.PrintWords
open Go.RowKit
namespace Kd
end Kd
end Go.Proofs.YtejgenhmhahgeaaGreatDoorW.PrintWords
