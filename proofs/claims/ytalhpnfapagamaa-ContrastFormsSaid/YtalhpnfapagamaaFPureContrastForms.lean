/- ContrastForms, on lists alone: Of, Change and Symmetric return what the reference returns. -/
import Derived.Test.YtalhpnfapagamaaFSym
import Derived.Test.YtalhpnfapagamaaFi
namespace Go.Proofs.Ytalhpnfapagamaa.Pure
open Go.RowKit Go.Proofs.Ytalhpnfapagamaa.C Go.Proofs.Ytalhpnfapagamaa.Plain Go.Proofs.YtalhpnfapagamaaW.PrintWords Go.Proofs.YtalhpnfapagamaaW.PrintLast

theorem ContrastForms (a : List (List Int)) (ha : a.length ≤ 9223372036854775807 ∧ ∀ row ∈ a, row.length ≤ 9223372036854775807 ∧ ∀ x ∈ row, (Lit.int .i64 x).wf = true)
    (b : List (List Int)) (hb : b.length ≤ 9223372036854775807 ∧ ∀ row ∈ b, row.length ≤ 9223372036854775807 ∧ ∀ x ∈ row, (Lit.int .i64 x).wf = true) : ∃ k, culetlaw36_ContrastForms.f k a b = some true := by
  apply Ev.rounds (g := fun k => culetlaw36_ContrastForms.f k a b)
  refine Ev.congr (fun k => by unfold culetlaw36_ContrastForms.f; rfl) (Ev.bind awake_ok ?_)
  simp only [if_true]
  refine Ev.bind (few_ev a b ha.1 hb.1) ?_
  cases fewB a && fewB b with
  | false => simpa using Ev.now true
  | true =>
    simp only [if_true, culetlaw36_theirs.f, Option.bind_some]
    refine Ev.bind (of_ev a) (Ev.bind (rof_ev a) (Ev.bind (change_ev a b) (Ev.bind (rch_ev a b) (Ev.bind (sym_ev a) (Ev.bind (rsym_ev a) ?_)))))
    simp only [beq_self_eq_true, Bool.and_self, if_true]
    exact Ev.now true

end Go.Proofs.Ytalhpnfapagamaa.Pure
