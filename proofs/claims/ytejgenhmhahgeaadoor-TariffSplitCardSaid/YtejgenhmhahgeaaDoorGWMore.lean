-- Written by this session's own programs; what the law does not lean on is left out. Lean checks it.
import Derived.Test.YtejgenhmhahgeaaDoorGWWords
import Derived.Test.YtejgenhmhahgeaaDoorGWLast
import Derived.Test.YtejgenhmhahgeaaDoorGWQPut
import Derived.Test.YtejgenhmhahgeaaDoorGWApart
import Derived.Test.YtejgenhmhahgeaaDoorGWZeros
import Derived.Test.YtejgenhmhahgeaaDoorGWFoot
import Derived.Test.YtejgenhmhahgeaaDoorGWKept
import Derived.Test.YtejgenhmhahgeaaDoorGWNEv
namespace Go.Proofs.YtejgenhmhahgeaaDoorW.PrintMore
open Go.RowKit Go.Proofs.YtejgenhmhahgeaaDoorW.PrintWords
namespace Kd
end Kd

namespace Kd
end Kd
end Go.Proofs.YtejgenhmhahgeaaDoorW.PrintMore
namespace Go.Proofs.YtejgenhmhahgeaaDoorW.PrintWords
open Go.RowKit
section
variable {P : Program} {ops : Array Oper} {rest : List Oper} {o : Oper} {a : Act} {Q : Exit → Act → World → Prop} {W : World}
theorem gate_callee {f : FuncId} {as : Array Operand} {ts : Array TypeId} (_ho : o.op = .call { callee := .value (.func f), args := as, argTypes := ts }) (h : wpList P ops Q (o :: rest) a W) : wpList P ops Q (o :: rest) a W := h
theorem gate_builtin {b : Builtin} {xs : Array Operand} {ts : Array TypeId} (_ho : o.op = .call { callee := .builtin b, args := xs, argTypes := ts }) (h : wpList P ops Q (o :: rest) a W) : wpList P ops Q (o :: rest) a W := h
end
theorem drewN_self (w : World) (n : Nat) : w.drewN n = w.drewN n := rfl
namespace Kd
end Kd
end Go.Proofs.YtejgenhmhahgeaaDoorW.PrintWords
namespace Go.Proofs.YtejgenhmhahgeaaDoorW.PrintWords
open Go.RowKit
namespace Kd
end Kd
end Go.Proofs.YtejgenhmhahgeaaDoorW.PrintWords
