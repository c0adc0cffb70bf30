/-
  DERIVED. GIVEN WITH THE SEED: THE CARDS: each row of YtejgenhmhahgeaaDoorRows.lean that lists a variable, with what it lists TIED to the program's text (the seventh form; the later family's looks); each row that meets fmt, with fmt's text TOLD by the authors' own Lean function (tested against real Go, not proved from fmt's source: count such statements apart). THE CARD IS WHAT COUNTS. Prove the row's statement (the work); the ties are given (YtejgenhmhahgeaaDoorTie.lean); close each card by the builder's one call (the guide's Derived/Test/ToyasCard.lean, 'card_holds'). Laid BY PROGRAM, IN A SANDBOX (cutbox-door.mjs). By AI agents, Wed Nov 11 2026. No macro, syntax, notation, axiom, sorry.
-/
import Derived.Test.YtejgenhmhahgeaaDoorRows
import GoSem.ClaimSeven
namespace Go.Proofs.YtejgenhmhahgeaaDoor
namespace Rows

/-- THE TIED CARD OF 'culetlaw44.TariffText'. -/
def tariffTextCard : Claim7 := { stood := { row := tariffTextRow, standIns := [], harness := (true, "5161bd8de7fa6d75734d0b08a3024aab48bd40273ac441682521ef018002e62b"), looks := true }, kinds := [], alts := [], laidByText := true, laidKinds := [.data, .data, .data, .data, .sentinel, .sentinel, .pinned], laidTests := true, laidLooks := .later }
def TariffTextCardSaid : Prop := Claim7.holds Tryd.pinned (.plain (OpenSpec.ofChange tariffTextSpec)) tariffTextCard

/-- THE TIED CARD OF 'culetlaw44.TariffUnfair'. -/
def tariffUnfairCard : Claim7 := { stood := { row := tariffUnfairRow, standIns := [], harness := (true, "5161bd8de7fa6d75734d0b08a3024aab48bd40273ac441682521ef018002e62b"), looks := true }, kinds := [], alts := [], laidByText := true, laidKinds := [.data, .data, .data, .data, .sentinel, .sentinel, .pinned], laidTests := true, laidLooks := .later }
def TariffUnfairCardSaid : Prop := Claim7.holds Tryd.pinned (.plain (OpenSpec.ofChange tariffUnfairSpec)) tariffUnfairCard

/-- THE TIED CARD OF 'culetlaw44.TariffSteps'. -/
def tariffStepsCard : Claim7 := { stood := { row := tariffStepsRow, standIns := [], harness := (true, "5161bd8de7fa6d75734d0b08a3024aab48bd40273ac441682521ef018002e62b"), looks := true }, kinds := [], alts := [], laidByText := true, laidKinds := [.data, .data, .data, .data, .sentinel, .sentinel, .pinned], laidTests := true, laidLooks := .later }
def TariffStepsCardSaid : Prop := Claim7.holds Tryd.pinned (.plain (OpenSpec.ofChange tariffStepsSpec)) tariffStepsCard

/-- THE TIED CARD OF 'culetlaw44.TariffForms'. -/
def tariffFormsCard : Claim7 := { stood := { row := tariffFormsRow, standIns := [], harness := (true, "5161bd8de7fa6d75734d0b08a3024aab48bd40273ac441682521ef018002e62b"), looks := true }, kinds := [], alts := [], laidByText := true, laidKinds := [.data, .data, .data, .data, .sentinel, .sentinel, .pinned], laidTests := true, laidLooks := .later }
def TariffFormsCardSaid : Prop := Claim7.holds Tryd.pinned (.plain (OpenSpec.ofChange tariffFormsSpec)) tariffFormsCard

/-- THE TIED CARD OF 'culetlaw44.TariffSplit'. -/
def tariffSplitCard : Claim7 := { stood := { row := tariffSplitRow, standIns := [], harness := (true, "5161bd8de7fa6d75734d0b08a3024aab48bd40273ac441682521ef018002e62b"), looks := true }, kinds := [], alts := [], laidByText := true, laidKinds := [.data, .data, .data, .data, .sentinel, .sentinel, .pinned], laidTests := true, laidLooks := .later }
def TariffSplitCardSaid : Prop := Claim7.holds Tryd.pinned (.plain (OpenSpec.ofChange tariffSplitSpec)) tariffSplitCard

/-- THE TIED CARD OF 'culetlaw44.TariffLeast'. -/
def tariffLeastCard : Claim7 := { stood := { row := tariffLeastRow, standIns := [], harness := (true, "5161bd8de7fa6d75734d0b08a3024aab48bd40273ac441682521ef018002e62b"), looks := true }, kinds := [], alts := [], laidByText := true, laidKinds := [.data, .data, .data, .data, .sentinel, .sentinel, .pinned], laidTests := true, laidLooks := .later }
def TariffLeastCardSaid : Prop := Claim7.holds Tryd.pinned (.plain (OpenSpec.ofChange tariffLeastSpec)) tariffLeastCard

/-- THE SECOND FORM's CARD OF 'culetlaw44.TariffText'. -/
def tariffTextUptoCard : Claim7 := { stood := { row := tariffTextUptoRow, standIns := [], harness := (true, "5161bd8de7fa6d75734d0b08a3024aab48bd40273ac441682521ef018002e62b"), looks := true }, kinds := [], alts := [], laidByText := true, laidKinds := [.data, .data, .data, .data, .sentinel, .sentinel, .pinned], laidTests := true, laidLooks := .later }
def TariffTextUptoCardSaid : Prop := Claim7.holds Tryd.pinned (.plain (OpenSpec.upto tariffTextSpec)) tariffTextUptoCard

/-- THE SECOND FORM's CARD OF 'culetlaw44.TariffUnfair'. -/
def tariffUnfairUptoCard : Claim7 := { stood := { row := tariffUnfairUptoRow, standIns := [], harness := (true, "5161bd8de7fa6d75734d0b08a3024aab48bd40273ac441682521ef018002e62b"), looks := true }, kinds := [], alts := [], laidByText := true, laidKinds := [.data, .data, .data, .data, .sentinel, .sentinel, .pinned], laidTests := true, laidLooks := .later }
def TariffUnfairUptoCardSaid : Prop := Claim7.holds Tryd.pinned (.plain (OpenSpec.upto tariffUnfairSpec)) tariffUnfairUptoCard

/-- THE SECOND FORM's CARD OF 'culetlaw44.TariffSteps'. -/
def tariffStepsUptoCard : Claim7 := { stood := { row := tariffStepsUptoRow, standIns := [], harness := (true, "5161bd8de7fa6d75734d0b08a3024aab48bd40273ac441682521ef018002e62b"), looks := true }, kinds := [], alts := [], laidByText := true, laidKinds := [.data, .data, .data, .data, .sentinel, .sentinel, .pinned], laidTests := true, laidLooks := .later }
def TariffStepsUptoCardSaid : Prop := Claim7.holds Tryd.pinned (.plain (OpenSpec.upto tariffStepsSpec)) tariffStepsUptoCard

/-- THE SECOND FORM's CARD OF 'culetlaw44.TariffForms'. -/
def tariffFormsUptoCard : Claim7 := { stood := { row := tariffFormsUptoRow, standIns := [], harness := (true, "5161bd8de7fa6d75734d0b08a3024aab48bd40273ac441682521ef018002e62b"), looks := true }, kinds := [], alts := [], laidByText := true, laidKinds := [.data, .data, .data, .data, .sentinel, .sentinel, .pinned], laidTests := true, laidLooks := .later }
def TariffFormsUptoCardSaid : Prop := Claim7.holds Tryd.pinned (.plain (OpenSpec.upto tariffFormsSpec)) tariffFormsUptoCard

/-- THE SECOND FORM's CARD OF 'culetlaw44.TariffSplit'. -/
def tariffSplitUptoCard : Claim7 := { stood := { row := tariffSplitUptoRow, standIns := [], harness := (true, "5161bd8de7fa6d75734d0b08a3024aab48bd40273ac441682521ef018002e62b"), looks := true }, kinds := [], alts := [], laidByText := true, laidKinds := [.data, .data, .data, .data, .sentinel, .sentinel, .pinned], laidTests := true, laidLooks := .later }
def TariffSplitUptoCardSaid : Prop := Claim7.holds Tryd.pinned (.plain (OpenSpec.upto tariffSplitSpec)) tariffSplitUptoCard

/-- THE SECOND FORM's CARD OF 'culetlaw44.TariffLeast'. -/
def tariffLeastUptoCard : Claim7 := { stood := { row := tariffLeastUptoRow, standIns := [], harness := (true, "5161bd8de7fa6d75734d0b08a3024aab48bd40273ac441682521ef018002e62b"), looks := true }, kinds := [], alts := [], laidByText := true, laidKinds := [.data, .data, .data, .data, .sentinel, .sentinel, .pinned], laidTests := true, laidLooks := .later }
def TariffLeastUptoCardSaid : Prop := Claim7.holds Tryd.pinned (.plain (OpenSpec.upto tariffLeastSpec)) tariffLeastUptoCard
end Rows
end Go.Proofs.YtejgenhmhahgeaaDoor
