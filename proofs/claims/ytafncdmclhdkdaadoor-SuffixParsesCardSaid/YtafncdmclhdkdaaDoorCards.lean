/-
  DERIVED. GIVEN WITH THE SEED: THE CARDS: each row of YtafncdmclhdkdaaDoorRows.lean that lists a variable, with what it lists TIED to the program's text (the seventh form; the later family's looks); each row that meets fmt, with fmt's text TOLD by the authors' own Lean function (tested against real Go, not proved from fmt's source: count such statements apart). THE CARD IS WHAT COUNTS. Prove the row's statement (the work); the ties are given (YtafncdmclhdkdaaDoorTie.lean); close each card by the builder's one call (the guide's Derived/Test/ToyasCard.lean, 'card_holds'). Laid BY PROGRAM, IN A SANDBOX (cutbox-door.mjs). By AI agents, Wed Nov 11 2026. No macro, syntax, notation, axiom, sorry.
-/
import Derived.Test.YtafncdmclhdkdaaDoorRows
import GoSem.ClaimSeven
namespace Go.Proofs.YtafncdmclhdkdaaDoor
namespace Rows

/-- THE TIED CARD OF 'sutlerlaw02.SuffixNumbers'. -/
def suffixNumbersCard : Claim7 := { stood := { row := suffixNumbersRow, standIns := [], harness := (true, "dce628b51e78b653008774612c962ee06cc842a7634a653c6611fa8891dcb2ef"), looks := true }, kinds := [], alts := [], laidByText := true, laidKinds := [.data, .data, .data, .data, .sentinel, .sentinel, .pinned], laidTests := true, laidLooks := .later }
def SuffixNumbersCardSaid : Prop := Claim7.holds Tryd.pinned (.plain (OpenSpec.ofChange suffixNumbersSpec)) suffixNumbersCard

/-- THE TIED CARD OF 'sutlerlaw02.SuffixParses'. -/
def suffixParsesCard : Claim7 := { stood := { row := suffixParsesRow, standIns := [], harness := (true, "dce628b51e78b653008774612c962ee06cc842a7634a653c6611fa8891dcb2ef"), looks := true }, kinds := [], alts := [], laidByText := true, laidKinds := [.data, .data, .data, .data, .sentinel, .sentinel, .pinned], laidTests := true, laidLooks := .later }
def SuffixParsesCardSaid : Prop := Claim7.holds Tryd.pinned (.plain (OpenSpec.ofChange suffixParsesSpec)) suffixParsesCard

/-- THE TIED CARD OF 'sutlerlaw02.SuffixPrints'. -/
def suffixPrintsCard : Claim7 := { stood := { row := suffixPrintsRow, standIns := [], harness := (true, "dce628b51e78b653008774612c962ee06cc842a7634a653c6611fa8891dcb2ef"), looks := true }, kinds := [], alts := [], laidByText := true, laidKinds := [.data, .data, .data, .data, .sentinel, .sentinel, .pinned], laidTests := true, laidLooks := .later }
def SuffixPrintsCardSaid : Prop := Claim7.holds Tryd.pinned (.plain (OpenSpec.ofChange suffixPrintsSpec)) suffixPrintsCard

/-- THE TIED CARD OF 'sutlerlaw02.SuffixBack'. -/
def suffixBackCard : Claim7 := { stood := { row := suffixBackRow, standIns := [], harness := (true, "dce628b51e78b653008774612c962ee06cc842a7634a653c6611fa8891dcb2ef"), looks := true }, kinds := [], alts := [], laidByText := true, laidKinds := [.data, .data, .data, .data, .sentinel, .sentinel, .pinned], laidTests := true, laidLooks := .later }
def SuffixBackCardSaid : Prop := Claim7.holds Tryd.pinned (.plain (OpenSpec.ofChange suffixBackSpec)) suffixBackCard

/-- THE TIED CARD OF 'sutlerlaw02.SuffixScale'. -/
def suffixScaleCard : Claim7 := { stood := { row := suffixScaleRow, standIns := [], harness := (true, "dce628b51e78b653008774612c962ee06cc842a7634a653c6611fa8891dcb2ef"), looks := true }, kinds := [], alts := [], laidByText := true, laidKinds := [.data, .data, .data, .data, .sentinel, .sentinel, .pinned], laidTests := true, laidLooks := .later }
def SuffixScaleCardSaid : Prop := Claim7.holds Tryd.pinned (.plain (OpenSpec.ofChange suffixScaleSpec)) suffixScaleCard

/-- THE SECOND FORM's CARD OF 'sutlerlaw02.SuffixNumbers'. -/
def suffixNumbersUptoCard : Claim7 := { stood := { row := suffixNumbersUptoRow, standIns := [], harness := (true, "dce628b51e78b653008774612c962ee06cc842a7634a653c6611fa8891dcb2ef"), looks := true }, kinds := [], alts := [], laidByText := true, laidKinds := [.data, .data, .data, .data, .sentinel, .sentinel, .pinned], laidTests := true, laidLooks := .later }
def SuffixNumbersUptoCardSaid : Prop := Claim7.holds Tryd.pinned (.plain (OpenSpec.upto suffixNumbersSpec)) suffixNumbersUptoCard

/-- THE SECOND FORM's CARD OF 'sutlerlaw02.SuffixParses'. -/
def suffixParsesUptoCard : Claim7 := { stood := { row := suffixParsesUptoRow, standIns := [], harness := (true, "dce628b51e78b653008774612c962ee06cc842a7634a653c6611fa8891dcb2ef"), looks := true }, kinds := [], alts := [], laidByText := true, laidKinds := [.data, .data, .data, .data, .sentinel, .sentinel, .pinned], laidTests := true, laidLooks := .later }
def SuffixParsesUptoCardSaid : Prop := Claim7.holds Tryd.pinned (.plain (OpenSpec.upto suffixParsesSpec)) suffixParsesUptoCard

/-- THE SECOND FORM's CARD OF 'sutlerlaw02.SuffixPrints'. -/
def suffixPrintsUptoCard : Claim7 := { stood := { row := suffixPrintsUptoRow, standIns := [], harness := (true, "dce628b51e78b653008774612c962ee06cc842a7634a653c6611fa8891dcb2ef"), looks := true }, kinds := [], alts := [], laidByText := true, laidKinds := [.data, .data, .data, .data, .sentinel, .sentinel, .pinned], laidTests := true, laidLooks := .later }
def SuffixPrintsUptoCardSaid : Prop := Claim7.holds Tryd.pinned (.plain (OpenSpec.upto suffixPrintsSpec)) suffixPrintsUptoCard

/-- THE SECOND FORM's CARD OF 'sutlerlaw02.SuffixBack'. -/
def suffixBackUptoCard : Claim7 := { stood := { row := suffixBackUptoRow, standIns := [], harness := (true, "dce628b51e78b653008774612c962ee06cc842a7634a653c6611fa8891dcb2ef"), looks := true }, kinds := [], alts := [], laidByText := true, laidKinds := [.data, .data, .data, .data, .sentinel, .sentinel, .pinned], laidTests := true, laidLooks := .later }
def SuffixBackUptoCardSaid : Prop := Claim7.holds Tryd.pinned (.plain (OpenSpec.upto suffixBackSpec)) suffixBackUptoCard

/-- THE SECOND FORM's CARD OF 'sutlerlaw02.SuffixScale'. -/
def suffixScaleUptoCard : Claim7 := { stood := { row := suffixScaleUptoRow, standIns := [], harness := (true, "dce628b51e78b653008774612c962ee06cc842a7634a653c6611fa8891dcb2ef"), looks := true }, kinds := [], alts := [], laidByText := true, laidKinds := [.data, .data, .data, .data, .sentinel, .sentinel, .pinned], laidTests := true, laidLooks := .later }
def SuffixScaleUptoCardSaid : Prop := Claim7.holds Tryd.pinned (.plain (OpenSpec.upto suffixScaleSpec)) suffixScaleUptoCard
end Rows
end Go.Proofs.YtafncdmclhdkdaaDoor
