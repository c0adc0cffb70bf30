-- Written by this session's own programs; what the law does not lean on is left out. Lean checks it.
import Derived.Test.YtalhpnfapagamaaQWWords
import Derived.Test.YtalhpnfapagamaaQWLast
import Derived.Test.YtalhpnfapagamaaQWQPut
import Derived.Test.YtalhpnfapagamaaQWApart
import Derived.Test.YtalhpnfapagamaaQWZeros
import Derived.Test.YtalhpnfapagamaaQWFoot
import Derived.Test.YtalhpnfapagamaaQWKept
import Derived.Test.YtalhpnfapagamaaQWNEv
namespace Go.Proofs.YtalhpnfapagamaaW.PrintMore
open Go.RowKit Go.Proofs.YtalhpnfapagamaaW.PrintWords
namespace Kd
end Kd

namespace Kd
end Kd
end Go.Proofs.YtalhpnfapagamaaW.PrintMore
namespace Go.Proofs.YtalhpnfapagamaaW.PrintWords
open Go.RowKit
section
variable {P : Program} {ops : Array Oper} {rest : List Oper} {o : Oper} {a : Act} {Q : Exit → Act → World → Prop} {W : World}
theorem gate_callee {f : FuncId} {as : Array Operand} {ts : Array TypeId} (_ho : o.op = .call { callee := .value (.func f), args := as, argTypes := ts }) (h : wpList P ops Q (o :: rest) a W) : wpList P ops Q (o :: rest) a W := h
theorem gate_builtin {b : Builtin} {xs : Array Operand} {ts : Array TypeId} (_ho : o.op = .call { callee := .builtin b, args := xs, argTypes := ts }) (h : wpList P ops Q (o :: rest) a W) : wpList P ops Q (o :: rest) a W := h
end
namespace Kd
end Kd
end Go.Proofs.YtalhpnfapagamaaW.PrintWords
namespace Go.Proofs.YtalhpnfapagamaaW.PrintWords
open Go.RowKit
namespace Kd
end Kd
end Go.Proofs.YtalhpnfapagamaaW.PrintWords
