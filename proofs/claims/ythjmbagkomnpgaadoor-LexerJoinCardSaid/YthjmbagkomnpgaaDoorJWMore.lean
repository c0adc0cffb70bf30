-- Written by this session's own programs; what the law does not lean on is left out. Lean checks it.
import Derived.Test.YthjmbagkomnpgaaDoorJWWords
import Derived.Test.YthjmbagkomnpgaaDoorJWLast
import Derived.Test.YthjmbagkomnpgaaDoorJWQPut
import Derived.Test.YthjmbagkomnpgaaDoorJWApart
import Derived.Test.YthjmbagkomnpgaaDoorJWZeros
import Derived.Test.YthjmbagkomnpgaaDoorJWFoot
import Derived.Test.YthjmbagkomnpgaaDoorJWKept
import Derived.Test.YthjmbagkomnpgaaDoorJWNEv
namespace Go.Proofs.YthjmbagkomnpgaaDoorW.PrintMore
open Go.RowKit Go.Proofs.YthjmbagkomnpgaaDoorW.PrintWords
namespace Kd
end Kd

namespace Kd
end Kd
end Go.Proofs.YthjmbagkomnpgaaDoorW.PrintMore
namespace Go.Proofs.YthjmbagkomnpgaaDoorW.PrintWords
open Go.RowKit
section
variable {P : Program} {ops : Array Oper} {rest : List Oper} {o : Oper} {a : Act} {Q : Exit → Act → World → Prop} {W : World}
theorem gate_callee {f : FuncId} {as : Array Operand} {ts : Array TypeId} (_ho : o.op = .call { callee := .value (.func f), args := as, argTypes := ts }) (h : wpList P ops Q (o :: rest) a W) : wpList P ops Q (o :: rest) a W := h
theorem gate_builtin {b : Builtin} {xs : Array Operand} {ts : Array TypeId} (_ho : o.op = .call { callee := .builtin b, args := xs, argTypes := ts }) (h : wpList P ops Q (o :: rest) a W) : wpList P ops Q (o :: rest) a W := h
end
namespace Kd
end Kd
end Go.Proofs.YthjmbagkomnpgaaDoorW.PrintWords
namespace Go.Proofs.YthjmbagkomnpgaaDoorW.PrintWords
open Go.RowKit
namespace Kd
end Kd
end Go.Proofs.YthjmbagkomnpgaaDoorW.PrintWords
