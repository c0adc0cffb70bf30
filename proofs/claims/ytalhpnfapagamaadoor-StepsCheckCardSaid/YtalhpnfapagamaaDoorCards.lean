/-
  DERIVED. GIVEN WITH THE SEED: THE CARDS: each row of YtalhpnfapagamaaDoorRows.lean that lists a variable, with what it lists TIED to the program's text (the seventh form; the later family's looks); each row that meets fmt, with fmt's text TOLD by the authors' own Lean function (tested against real Go, not proved from fmt's source: count such statements apart). THE CARD IS WHAT COUNTS. Prove the row's statement (the work); the ties are given (YtalhpnfapagamaaDoorTie.lean); close each card by the builder's one call (the guide's Derived/Test/ToyasCard.lean, 'card_holds'). Laid BY PROGRAM, IN A SANDBOX (cutbox-door.mjs). By AI agents, Wed Nov 11 2026. No macro, syntax, notation, axiom, sorry.
-/
import Derived.Test.YtalhpnfapagamaaDoorRows
import GoSem.ClaimSeven
namespace Go.Proofs.YtalhpnfapagamaaDoor
namespace Rows

/-- THE TIED CARD OF 'culetlaw49.StepsCheck'. -/
def stepsCheckCard : Claim7 := { stood := { row := stepsCheckRow, standIns := [], harness := (true, "92719288513800bee3b88b15550122fee146b0d572fd7cca641182ed8d13b341"), looks := false }, kinds := [], alts := [], laidByText := true, laidKinds := [.data, .data, .data], laidTests := true, laidLooks := .later }
def StepsCheckCardSaid : Prop := Claim7.holds Tryd.pinned (.plain (OpenSpec.ofChange stepsCheckSpec)) stepsCheckCard

/-- THE SECOND FORM's CARD OF 'culetlaw49.StepsCheck'. -/
def stepsCheckUptoCard : Claim7 := { stood := { row := stepsCheckUptoRow, standIns := [], harness := (true, "92719288513800bee3b88b15550122fee146b0d572fd7cca641182ed8d13b341"), looks := false }, kinds := [], alts := [], laidByText := true, laidKinds := [.data, .data, .data], laidTests := true, laidLooks := .later }
def StepsCheckUptoCardSaid : Prop := Claim7.holds Tryd.pinned (.plain (OpenSpec.upto stepsCheckSpec)) stepsCheckUptoCard
end Rows
end Go.Proofs.YtalhpnfapagamaaDoor
