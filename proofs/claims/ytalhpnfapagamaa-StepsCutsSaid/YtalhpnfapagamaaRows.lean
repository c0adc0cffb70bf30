/-
  No cell of these rows narrows 'for every input' (looked for: loops, veiled, ifaces, maps, wideKeys, modest, calm, conditions, laid).
  DERIVED. THE GIVEN ROWS OF THIS SEAT. 10 by the template 'for every input the law returns true; each argument reads behind the call as it read before'; 0 by the template 'total and deterministic' (their statements: YtalhpnfapagamaaTotals.lean).
  GIVEN WITH THE SEED: the statements are not yours to turn. If you find one false, say at which input.
  Laid BY PROGRAM, IN A SANDBOX (cutbox-rows.mjs): the forced cells as the released guide's own fill.sh prints them over the translation f376a420d1eb94c2… (all of the seat's roots in one cut). By AI agents, Wed Nov 11 2026. No macro, syntax, notation, axiom, sorry.
-/
import Derived.Test.YtalhpnfapagamaaChecked
import GoSem.Claim
import GoSem.ClaimJoined
import GoSem.ClaimMapViews
import Derived.JoinedTies
import Derived.KernelRfl
namespace Go.Proofs.Ytalhpnfapagamaa
/- THE CELL 'sum', in the pinned program and in every row, IS THE sha256 OF THE DUMP (.gsa) THAT YtalhpnfapagamaaProg.lean LOADS. Nothing in Lean hashes anything: it is a label: what it is worth is what the hold of that sum in a sandbox is worth. -/
noncomputable def Try.pinned : Pinned := { name := "ytalhpnfapagamaa", sum := "f376a420d1eb94c256f20c1d69ee55aa5b8f03bde484083f954d4c353e0d41c5", checked := Try.checked }
namespace Rows
def none {H : Type} : Left H := { results := [], args := [] }

/-- 'culetlaw36.ContrastMotions': WHATEVER THE INPUT: true; the input reads as it did. -/
def contrastMotionsSpec : ChangeSpec := { name := "contrastMotions", fn := fun _ => fun
  | [d] => { results := [.lit (.bool true)], args := [d] }
  | _ => none }
def contrastMotionsRow : OpenClaim := { program := "ytalhpnfapagamaa", sum := "f376a420d1eb94c256f20c1d69ee55aa5b8f03bde484083f954d4c353e0d41c5", func := "culet/culetlaw36.ContrastMotions", spec := "contrastMotions", unfollowed := true, recurses := true, plainKeys := false, apart := false }
def ContrastMotionsSaid : Prop := contrastMotionsRow.holds Try.pinned (OpenSpec.ofChange contrastMotionsSpec)

/-- ITS FALSE NEIGHBOUR: 'it returns false'. Refute it at one input. -/
def contrastMotionsWrong : ChangeSpec := { name := "contrastMotions", fn := fun _ => fun
  | [d] => { results := [.lit (.bool false)], args := [d] }
  | _ => none }
def ContrastMotionsWrongFalsely : Prop := contrastMotionsRow.holds Try.pinned (OpenSpec.ofChange contrastMotionsWrong)

/-- 'culetlaw36.ContrastForms': WHATEVER THE INPUT: true; the input reads as it did. -/
def contrastFormsSpec : ChangeSpec := { name := "contrastForms", fn := fun _ => fun
  | [d1, d2] => { results := [.lit (.bool true)], args := [d1, d2] }
  | _ => none }
def contrastFormsRow : OpenClaim := { program := "ytalhpnfapagamaa", sum := "f376a420d1eb94c256f20c1d69ee55aa5b8f03bde484083f954d4c353e0d41c5", func := "culet/culetlaw36.ContrastForms", spec := "contrastForms", unfollowed := true, recurses := true, plainKeys := false, apart := false }
def ContrastFormsSaid : Prop := contrastFormsRow.holds Try.pinned (OpenSpec.ofChange contrastFormsSpec)

/-- ITS FALSE NEIGHBOUR: 'it returns false'. Refute it at one input. -/
def contrastFormsWrong : ChangeSpec := { name := "contrastForms", fn := fun _ => fun
  | [d1, d2] => { results := [.lit (.bool false)], args := [d1, d2] }
  | _ => none }
def ContrastFormsWrongFalsely : Prop := contrastFormsRow.holds Try.pinned (OpenSpec.ofChange contrastFormsWrong)

/-- 'culetlaw36.ContrastPairs': WHATEVER THE INPUT: true; the input reads as it did. -/
def contrastPairsSpec : ChangeSpec := { name := "contrastPairs", fn := fun _ => fun
  | [d] => { results := [.lit (.bool true)], args := [d] }
  | _ => none }
def contrastPairsRow : OpenClaim := { program := "ytalhpnfapagamaa", sum := "f376a420d1eb94c256f20c1d69ee55aa5b8f03bde484083f954d4c353e0d41c5", func := "culet/culetlaw36.ContrastPairs", spec := "contrastPairs", unfollowed := true, recurses := true, plainKeys := false, apart := false }
def ContrastPairsSaid : Prop := contrastPairsRow.holds Try.pinned (OpenSpec.ofChange contrastPairsSpec)

/-- ITS FALSE NEIGHBOUR: 'it returns false'. Refute it at one input. -/
def contrastPairsWrong : ChangeSpec := { name := "contrastPairs", fn := fun _ => fun
  | [d] => { results := [.lit (.bool false)], args := [d] }
  | _ => none }
def ContrastPairsWrongFalsely : Prop := contrastPairsRow.holds Try.pinned (OpenSpec.ofChange contrastPairsWrong)

/-- 'culetlaw36.ContrastOrder': WHATEVER THE INPUT: true; the input reads as it did. -/
def contrastOrderSpec : ChangeSpec := { name := "contrastOrder", fn := fun _ => fun
  | [d1, d2] => { results := [.lit (.bool true)], args := [d1, d2] }
  | _ => none }
def contrastOrderRow : OpenClaim := { program := "ytalhpnfapagamaa", sum := "f376a420d1eb94c256f20c1d69ee55aa5b8f03bde484083f954d4c353e0d41c5", func := "culet/culetlaw36.ContrastOrder", spec := "contrastOrder", unfollowed := true, recurses := true, plainKeys := false, apart := false }
def ContrastOrderSaid : Prop := contrastOrderRow.holds Try.pinned (OpenSpec.ofChange contrastOrderSpec)

/-- ITS FALSE NEIGHBOUR: 'it returns false'. Refute it at one input. -/
def contrastOrderWrong : ChangeSpec := { name := "contrastOrder", fn := fun _ => fun
  | [d1, d2] => { results := [.lit (.bool false)], args := [d1, d2] }
  | _ => none }
def ContrastOrderWrongFalsely : Prop := contrastOrderRow.holds Try.pinned (OpenSpec.ofChange contrastOrderWrong)

/-- 'culetlaw49.StepsExchanged': WHATEVER THE INPUT: true; the input reads as it did. -/
def stepsExchangedSpec : ChangeSpec := { name := "stepsExchanged", fn := fun _ => fun
  | [d1, d2] => { results := [.lit (.bool true)], args := [d1, d2] }
  | _ => none }
def stepsExchangedRow : OpenClaim := { program := "ytalhpnfapagamaa", sum := "f376a420d1eb94c256f20c1d69ee55aa5b8f03bde484083f954d4c353e0d41c5", func := "culet/culetlaw49.StepsExchanged", spec := "stepsExchanged", unfollowed := true, recurses := true, plainKeys := false, apart := false }
def StepsExchangedSaid : Prop := stepsExchangedRow.holds Try.pinned (OpenSpec.ofChange stepsExchangedSpec)

/-- ITS FALSE NEIGHBOUR: 'it returns false'. Refute it at one input. -/
def stepsExchangedWrong : ChangeSpec := { name := "stepsExchanged", fn := fun _ => fun
  | [d1, d2] => { results := [.lit (.bool false)], args := [d1, d2] }
  | _ => none }
def StepsExchangedWrongFalsely : Prop := stepsExchangedRow.holds Try.pinned (OpenSpec.ofChange stepsExchangedWrong)

/-- 'culetlaw49.StepsMissing': WHATEVER THE INPUT: true; the input reads as it did. -/
def stepsMissingSpec : ChangeSpec := { name := "stepsMissing", fn := fun _ => fun
  | [d1, d2] => { results := [.lit (.bool true)], args := [d1, d2] }
  | _ => none }
def stepsMissingRow : OpenClaim := { program := "ytalhpnfapagamaa", sum := "f376a420d1eb94c256f20c1d69ee55aa5b8f03bde484083f954d4c353e0d41c5", func := "culet/culetlaw49.StepsMissing", spec := "stepsMissing", unfollowed := true, recurses := true, plainKeys := false, apart := false }
def StepsMissingSaid : Prop := stepsMissingRow.holds Try.pinned (OpenSpec.ofChange stepsMissingSpec)

/-- ITS FALSE NEIGHBOUR: 'it returns false'. Refute it at one input. -/
def stepsMissingWrong : ChangeSpec := { name := "stepsMissing", fn := fun _ => fun
  | [d1, d2] => { results := [.lit (.bool false)], args := [d1, d2] }
  | _ => none }
def StepsMissingWrongFalsely : Prop := stepsMissingRow.holds Try.pinned (OpenSpec.ofChange stepsMissingWrong)

/-- 'culetlaw49.StepsCuts': WHATEVER THE INPUT: true; the input reads as it did. -/
def stepsCutsSpec : ChangeSpec := { name := "stepsCuts", fn := fun _ => fun
  | [d] => { results := [.lit (.bool true)], args := [d] }
  | _ => none }
def stepsCutsRow : OpenClaim := { program := "ytalhpnfapagamaa", sum := "f376a420d1eb94c256f20c1d69ee55aa5b8f03bde484083f954d4c353e0d41c5", func := "culet/culetlaw49.StepsCuts", spec := "stepsCuts", unfollowed := true, recurses := true, plainKeys := false, apart := false }
def StepsCutsSaid : Prop := stepsCutsRow.holds Try.pinned (OpenSpec.ofChange stepsCutsSpec)

/-- ITS FALSE NEIGHBOUR: 'it returns false'. Refute it at one input. -/
def stepsCutsWrong : ChangeSpec := { name := "stepsCuts", fn := fun _ => fun
  | [d] => { results := [.lit (.bool false)], args := [d] }
  | _ => none }
def StepsCutsWrongFalsely : Prop := stepsCutsRow.holds Try.pinned (OpenSpec.ofChange stepsCutsWrong)

/-- 'culetlaw49.StepsOf': WHATEVER THE INPUT: true; the input reads as it did. -/
def stepsOfSpec : ChangeSpec := { name := "stepsOf", fn := fun _ => fun
  | [d] => { results := [.lit (.bool true)], args := [d] }
  | _ => none }
def stepsOfRow : OpenClaim := { program := "ytalhpnfapagamaa", sum := "f376a420d1eb94c256f20c1d69ee55aa5b8f03bde484083f954d4c353e0d41c5", func := "culet/culetlaw49.StepsOf", spec := "stepsOf", unfollowed := true, recurses := true, plainKeys := false, apart := false }
def StepsOfSaid : Prop := stepsOfRow.holds Try.pinned (OpenSpec.ofChange stepsOfSpec)

/-- ITS FALSE NEIGHBOUR: 'it returns false'. Refute it at one input. -/
def stepsOfWrong : ChangeSpec := { name := "stepsOf", fn := fun _ => fun
  | [d] => { results := [.lit (.bool false)], args := [d] }
  | _ => none }
def StepsOfWrongFalsely : Prop := stepsOfRow.holds Try.pinned (OpenSpec.ofChange stepsOfWrong)

/-- 'culetlaw49.StepsLeast': WHATEVER THE INPUT: true; the input reads as it did. -/
def stepsLeastSpec : ChangeSpec := { name := "stepsLeast", fn := fun _ => fun
  | [d1, d2] => { results := [.lit (.bool true)], args := [d1, d2] }
  | _ => none }
def stepsLeastRow : OpenClaim := { program := "ytalhpnfapagamaa", sum := "f376a420d1eb94c256f20c1d69ee55aa5b8f03bde484083f954d4c353e0d41c5", func := "culet/culetlaw49.StepsLeast", spec := "stepsLeast", unfollowed := true, recurses := true, plainKeys := false, apart := false }
def StepsLeastSaid : Prop := stepsLeastRow.holds Try.pinned (OpenSpec.ofChange stepsLeastSpec)

/-- ITS FALSE NEIGHBOUR: 'it returns false'. Refute it at one input. -/
def stepsLeastWrong : ChangeSpec := { name := "stepsLeast", fn := fun _ => fun
  | [d1, d2] => { results := [.lit (.bool false)], args := [d1, d2] }
  | _ => none }
def StepsLeastWrongFalsely : Prop := stepsLeastRow.holds Try.pinned (OpenSpec.ofChange stepsLeastWrong)

/-- 'culetlaw49.StepsRest': WHATEVER THE INPUT: true; the input reads as it did. -/
def stepsRestSpec : ChangeSpec := { name := "stepsRest", fn := fun _ => fun
  | [d1, d2, d3] => { results := [.lit (.bool true)], args := [d1, d2, d3] }
  | _ => none }
def stepsRestRow : OpenClaim := { program := "ytalhpnfapagamaa", sum := "f376a420d1eb94c256f20c1d69ee55aa5b8f03bde484083f954d4c353e0d41c5", func := "culet/culetlaw49.StepsRest", spec := "stepsRest", unfollowed := true, recurses := true, plainKeys := false, apart := false }
def StepsRestSaid : Prop := stepsRestRow.holds Try.pinned (OpenSpec.ofChange stepsRestSpec)

/-- ITS FALSE NEIGHBOUR: 'it returns false'. Refute it at one input. -/
def stepsRestWrong : ChangeSpec := { name := "stepsRest", fn := fun _ => fun
  | [d1, d2, d3] => { results := [.lit (.bool false)], args := [d1, d2, d3] }
  | _ => none }
def StepsRestWrongFalsely : Prop := stepsRestRow.holds Try.pinned (OpenSpec.ofChange stepsRestWrong)

/- THE SECOND FORM. 'bulk': how many values and letters a reading holds, each counted each time it is reached (what is shared counts as often as it is met; a slice's spare places count too). A statement '..UptoSaid' is the law's where the arguments, and the package variables that the reading takes, are together of bulk at most 1048576: NARROWER than '..Said'. Prove '..Said' where nothing that the law and all that it calls make is longer than what came in: it says more and counts as full. Else prove '..UptoSaid'. A law counts once. -/
mutual
def uptoBulk {H : Type} : DataW H → Nat
  | .lit (.string bytes) => bytes.length + 1
  | .lit _ => 1
  | .nil => 1
  | .ptr d => uptoBulk d + 1
  | .slice elems spare => uptoBulkAll elems + uptoBulkAll spare + 1
  | .agg parts => uptoBulkAll parts + 1
  | .iface _ d => uptoBulk d + 1
  | .map entries => uptoBulkEntries entries + 1
  | .held _ => 1
def uptoBulkAll {H : Type} : List (DataW H) → Nat
  | [] => 0
  | d :: r => uptoBulk d + uptoBulkAll r
def uptoBulkEntries {H : Type} : List (Lit × DataW H) → Nat
  | [] => 0
  | x :: r => uptoBulkEntry x + uptoBulkEntries r
def uptoBulkEntry {H : Type} : Lit × DataW H → Nat
  | (.string bytes, d) => bytes.length + uptoBulk d + 1
  | (_, d) => uptoBulk d + 1
 end
def uptoSmall : (H : Type) → List (DataW H) → Bool := fun _ ds => decide (uptoBulkAll ds ≤ 1048576)
def OpenSpec.upto (s : _root_.Go.ChangeSpec) : _root_.Go.OpenSpec := { _root_.Go.OpenSpec.ofChange s with cond := some uptoSmall }

/-- 'culetlaw36.ContrastMotions', WHERE WHAT IT READS IS OF BULK AT MOST 1048576: true; the input reads as it did. -/
def contrastMotionsUptoRow : OpenClaim := { program := "ytalhpnfapagamaa", sum := "f376a420d1eb94c256f20c1d69ee55aa5b8f03bde484083f954d4c353e0d41c5", func := "culet/culetlaw36.ContrastMotions", spec := "contrastMotions", unfollowed := true, recurses := true, plainKeys := false, apart := false, narrowed := true }
def ContrastMotionsUptoSaid : Prop := contrastMotionsUptoRow.holds Try.pinned (OpenSpec.upto contrastMotionsSpec)

/-- 'culetlaw36.ContrastForms', WHERE WHAT IT READS IS OF BULK AT MOST 1048576: true; the input reads as it did. -/
def contrastFormsUptoRow : OpenClaim := { program := "ytalhpnfapagamaa", sum := "f376a420d1eb94c256f20c1d69ee55aa5b8f03bde484083f954d4c353e0d41c5", func := "culet/culetlaw36.ContrastForms", spec := "contrastForms", unfollowed := true, recurses := true, plainKeys := false, apart := false, narrowed := true }
def ContrastFormsUptoSaid : Prop := contrastFormsUptoRow.holds Try.pinned (OpenSpec.upto contrastFormsSpec)

/-- 'culetlaw36.ContrastPairs', WHERE WHAT IT READS IS OF BULK AT MOST 1048576: true; the input reads as it did. -/
def contrastPairsUptoRow : OpenClaim := { program := "ytalhpnfapagamaa", sum := "f376a420d1eb94c256f20c1d69ee55aa5b8f03bde484083f954d4c353e0d41c5", func := "culet/culetlaw36.ContrastPairs", spec := "contrastPairs", unfollowed := true, recurses := true, plainKeys := false, apart := false, narrowed := true }
def ContrastPairsUptoSaid : Prop := contrastPairsUptoRow.holds Try.pinned (OpenSpec.upto contrastPairsSpec)

/-- 'culetlaw36.ContrastOrder', WHERE WHAT IT READS IS OF BULK AT MOST 1048576: true; the input reads as it did. -/
def contrastOrderUptoRow : OpenClaim := { program := "ytalhpnfapagamaa", sum := "f376a420d1eb94c256f20c1d69ee55aa5b8f03bde484083f954d4c353e0d41c5", func := "culet/culetlaw36.ContrastOrder", spec := "contrastOrder", unfollowed := true, recurses := true, plainKeys := false, apart := false, narrowed := true }
def ContrastOrderUptoSaid : Prop := contrastOrderUptoRow.holds Try.pinned (OpenSpec.upto contrastOrderSpec)

/-- 'culetlaw49.StepsExchanged', WHERE WHAT IT READS IS OF BULK AT MOST 1048576: true; the input reads as it did. -/
def stepsExchangedUptoRow : OpenClaim := { program := "ytalhpnfapagamaa", sum := "f376a420d1eb94c256f20c1d69ee55aa5b8f03bde484083f954d4c353e0d41c5", func := "culet/culetlaw49.StepsExchanged", spec := "stepsExchanged", unfollowed := true, recurses := true, plainKeys := false, apart := false, narrowed := true }
def StepsExchangedUptoSaid : Prop := stepsExchangedUptoRow.holds Try.pinned (OpenSpec.upto stepsExchangedSpec)

/-- 'culetlaw49.StepsMissing', WHERE WHAT IT READS IS OF BULK AT MOST 1048576: true; the input reads as it did. -/
def stepsMissingUptoRow : OpenClaim := { program := "ytalhpnfapagamaa", sum := "f376a420d1eb94c256f20c1d69ee55aa5b8f03bde484083f954d4c353e0d41c5", func := "culet/culetlaw49.StepsMissing", spec := "stepsMissing", unfollowed := true, recurses := true, plainKeys := false, apart := false, narrowed := true }
def StepsMissingUptoSaid : Prop := stepsMissingUptoRow.holds Try.pinned (OpenSpec.upto stepsMissingSpec)

/-- 'culetlaw49.StepsCuts', WHERE WHAT IT READS IS OF BULK AT MOST 1048576: true; the input reads as it did. -/
def stepsCutsUptoRow : OpenClaim := { program := "ytalhpnfapagamaa", sum := "f376a420d1eb94c256f20c1d69ee55aa5b8f03bde484083f954d4c353e0d41c5", func := "culet/culetlaw49.StepsCuts", spec := "stepsCuts", unfollowed := true, recurses := true, plainKeys := false, apart := false, narrowed := true }
def StepsCutsUptoSaid : Prop := stepsCutsUptoRow.holds Try.pinned (OpenSpec.upto stepsCutsSpec)

/-- 'culetlaw49.StepsOf', WHERE WHAT IT READS IS OF BULK AT MOST 1048576: true; the input reads as it did. -/
def stepsOfUptoRow : OpenClaim := { program := "ytalhpnfapagamaa", sum := "f376a420d1eb94c256f20c1d69ee55aa5b8f03bde484083f954d4c353e0d41c5", func := "culet/culetlaw49.StepsOf", spec := "stepsOf", unfollowed := true, recurses := true, plainKeys := false, apart := false, narrowed := true }
def StepsOfUptoSaid : Prop := stepsOfUptoRow.holds Try.pinned (OpenSpec.upto stepsOfSpec)

/-- 'culetlaw49.StepsLeast', WHERE WHAT IT READS IS OF BULK AT MOST 1048576: true; the input reads as it did. -/
def stepsLeastUptoRow : OpenClaim := { program := "ytalhpnfapagamaa", sum := "f376a420d1eb94c256f20c1d69ee55aa5b8f03bde484083f954d4c353e0d41c5", func := "culet/culetlaw49.StepsLeast", spec := "stepsLeast", unfollowed := true, recurses := true, plainKeys := false, apart := false, narrowed := true }
def StepsLeastUptoSaid : Prop := stepsLeastUptoRow.holds Try.pinned (OpenSpec.upto stepsLeastSpec)

/-- 'culetlaw49.StepsRest', WHERE WHAT IT READS IS OF BULK AT MOST 1048576: true; the input reads as it did. -/
def stepsRestUptoRow : OpenClaim := { program := "ytalhpnfapagamaa", sum := "f376a420d1eb94c256f20c1d69ee55aa5b8f03bde484083f954d4c353e0d41c5", func := "culet/culetlaw49.StepsRest", spec := "stepsRest", unfollowed := true, recurses := true, plainKeys := false, apart := false, narrowed := true }
def StepsRestUptoSaid : Prop := stepsRestUptoRow.holds Try.pinned (OpenSpec.upto stepsRestSpec)

end Rows
end Go.Proofs.Ytalhpnfapagamaa
