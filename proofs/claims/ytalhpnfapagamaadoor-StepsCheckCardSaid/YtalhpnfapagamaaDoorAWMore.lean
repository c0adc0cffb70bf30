-- Written by this session's own programs; what the law does not lean on is left out. Lean checks it.
import Derived.Test.YtalhpnfapagamaaDoorAWWords
import Derived.Test.YtalhpnfapagamaaDoorAWLast
import Derived.Test.YtalhpnfapagamaaDoorAWQPut
import Derived.Test.YtalhpnfapagamaaDoorAWApart
import Derived.Test.YtalhpnfapagamaaDoorAWZeros
import Derived.Test.YtalhpnfapagamaaDoorAWFoot
import Derived.Test.YtalhpnfapagamaaDoorAWKept
import Derived.Test.YtalhpnfapagamaaDoorAWNEv
namespace Go.Proofs.YtalhpnfapagamaaDoorW.PrintMore
open Go.RowKit Go.Proofs.YtalhpnfapagamaaDoorW.PrintWords
namespace Kd
end Kd

namespace Kd
end Kd
end Go.Proofs.YtalhpnfapagamaaDoorW.PrintMore
namespace Go.Proofs.YtalhpnfapagamaaDoorW.PrintWords
open Go.RowKit
section
variable {P : Program} {ops : Array Oper} {rest : List Oper} {o : Oper} {a : Act} {Q : Exit → Act → World → Prop} {W : World}
theorem gate_callee {f : FuncId} {as : Array Operand} {ts : Array TypeId} (_ho : o.op = .call { callee := .value (.func f), args := as, argTypes := ts }) (h : wpList P ops Q (o :: rest) a W) : wpList P ops Q (o :: rest) a W := h
theorem gate_builtin {b : Builtin} {xs : Array Operand} {ts : Array TypeId} (_ho : o.op = .call { callee := .builtin b, args := xs, argTypes := ts }) (h : wpList P ops Q (o :: rest) a W) : wpList P ops Q (o :: rest) a W := h
end
namespace Kd
end Kd
end Go.Proofs.YtalhpnfapagamaaDoorW.PrintWords
namespace Go.Proofs.YtalhpnfapagamaaDoorW.PrintWords
open Go.RowKit
namespace Kd
section
variable {α β : Type} {d : Kd α} {e base base' n m c g N' lo hi : Nat} {ok ok' S : Nat → Prop} {w W w1 : World} {A : Option Addr} {ad : Addr} {u v v1 : Value} {xs : List α}
theorem R_newM {M : Nat → Prop} (h : d.R e w1 W.heap.size ok v xs) (hle : w.heap.size ≤ W.heap.size) (hM : ∀ k, w.heap.size ≤ k → M k) : d.R e w1 W.heap.size (fun k => M k ∧ ok k) v xs := R_mono (R_bound h) (fun k hk => ⟨hM k (Nat.le_trans hle hk.2.1), hk.1⟩)
end
end Kd
end Go.Proofs.YtalhpnfapagamaaDoorW.PrintWords
