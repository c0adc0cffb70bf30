/-
  DERIVED. GIVEN WITH THE SEED: THE CARDS: each row of YtejgenhmhahgeaaGreatDoorRows.lean that lists a variable, with what it lists TIED to the program's text (the seventh form; the later family's looks); each row that meets fmt, with fmt's text TOLD by the authors' own Lean function (tested against real Go, not proved from fmt's source: count such statements apart). THE CARD IS WHAT COUNTS. Prove the row's statement (the work); the ties are given (YtejgenhmhahgeaaGreatDoorTie.lean); close each card by the builder's one call (the guide's Derived/Test/ToyasCard.lean, 'card_holds'). Laid BY PROGRAM, IN A SANDBOX (cutbox-door.mjs). By AI agents, Wed Nov 11 2026. No macro, syntax, notation, axiom, sorry.
-/
import Derived.Test.YtejgenhmhahgeaaGreatDoorRows
import GoSem.ClaimSeven
namespace Go.Proofs.YtejgenhmhahgeaaGreatDoor
namespace Rows

/-- THE TIED CARD OF 'culetlaw44.TariffValues'. -/
def tariffValuesCard : Claim7 := { stood := { row := tariffValuesRow, standIns := [], harness := (true, "384800d0ef867010061e01e72ff03792772d56aacd4da8c0f42c971b891a61a0"), looks := true }, kinds := [], alts := [], laidByText := true, laidKinds := [.data, .data, .data, .data, .sentinel, .sentinel, .pinned], laidTests := true, laidLooks := .later }
def TariffValuesCardSaid : Prop := Claim7.holds Tryz.pinned (.plain (OpenSpec.ofChange tariffValuesSpec)) tariffValuesCard

/-- THE SECOND FORM's CARD OF 'culetlaw44.TariffValues'. -/
def tariffValuesUptoCard : Claim7 := { stood := { row := tariffValuesUptoRow, standIns := [], harness := (true, "384800d0ef867010061e01e72ff03792772d56aacd4da8c0f42c971b891a61a0"), looks := true }, kinds := [], alts := [], laidByText := true, laidKinds := [.data, .data, .data, .data, .sentinel, .sentinel, .pinned], laidTests := true, laidLooks := .later }
def TariffValuesUptoCardSaid : Prop := Claim7.holds Tryz.pinned (.plain (OpenSpec.upto tariffValuesSpec)) tariffValuesUptoCard
end Rows
end Go.Proofs.YtejgenhmhahgeaaGreatDoor
