/-
  DERIVED. GIVEN WITH THE SEED: THE CARDS: each row of YtonkoellfaopiaaGreatDoorRows.lean that lists a variable, with what it lists TIED to the program's text (the seventh form; the later family's looks); each row that meets fmt, with fmt's text TOLD by the authors' own Lean function (tested against real Go, not proved from fmt's source: count such statements apart). THE CARD IS WHAT COUNTS. Prove the row's statement (the work); the ties are given (YtonkoellfaopiaaGreatDoorTie.lean); close each card by the builder's one call (the guide's Derived/Test/ToyasCard.lean, 'card_holds'). Laid BY PROGRAM, IN A SANDBOX (cutbox-door.mjs). By AI agents, Wed Nov 11 2026. No macro, syntax, notation, axiom, sorry.
-/
import Derived.Test.YtonkoellfaopiaaGreatDoorRows
import GoSem.ClaimSeven
namespace Go.Proofs.YtonkoellfaopiaaGreatDoor
namespace Rows

/-- THE TIED CARD OF 'sutlerlaw14.ViewChecks'. -/
def viewChecksCard : Claim7 := { stood := { row := viewChecksRow, standIns := [], harness := (true, "d0df7a397e6f04cba0112a85eb11e051df5933c3c13e18ec36492f2da9b7cc1d"), looks := true }, kinds := [], alts := [], laidByText := true, laidKinds := [.data, .data, .data, .sentinel, .sentinel], laidTests := true, laidLooks := .later }
def ViewChecksCardSaid : Prop := Claim7.holds Tryz.pinned (.plain (OpenSpec.ofChange viewChecksSpec)) viewChecksCard

/-- THE TIED CARD OF 'sutlerlaw14.ViewNodes'. -/
def viewNodesCard : Claim7 := { stood := { row := viewNodesRow, standIns := [], harness := (true, "d0df7a397e6f04cba0112a85eb11e051df5933c3c13e18ec36492f2da9b7cc1d"), looks := true }, kinds := [], alts := [], laidByText := true, laidKinds := [.data, .data, .data, .sentinel, .sentinel], laidTests := true, laidLooks := .later }
def ViewNodesCardSaid : Prop := Claim7.holds Tryz.pinned (.plain (OpenSpec.ofChange viewNodesSpec)) viewNodesCard

/-- THE TIED CARD OF 'sutlerlaw14.ViewNames'. -/
def viewNamesCard : Claim7 := { stood := { row := viewNamesRow, standIns := [], harness := (true, "d0df7a397e6f04cba0112a85eb11e051df5933c3c13e18ec36492f2da9b7cc1d"), looks := true }, kinds := [], alts := [], laidByText := true, laidKinds := [.data, .data, .data, .sentinel, .sentinel], laidTests := true, laidLooks := .later }
def ViewNamesCardSaid : Prop := Claim7.holds Tryz.pinned (.plain (OpenSpec.ofChange viewNamesSpec)) viewNamesCard

/-- THE TIED CARD OF 'sutlerlaw14.ViewSums'. -/
def viewSumsCard : Claim7 := { stood := { row := viewSumsRow, standIns := [], harness := (true, "d0df7a397e6f04cba0112a85eb11e051df5933c3c13e18ec36492f2da9b7cc1d"), looks := true }, kinds := [], alts := [], laidByText := true, laidKinds := [.data, .data, .data, .sentinel, .sentinel], laidTests := true, laidLooks := .later }
def ViewSumsCardSaid : Prop := Claim7.holds Tryz.pinned (.plain (OpenSpec.ofChange viewSumsSpec)) viewSumsCard

/-- THE TIED CARD OF 'sutlerlaw14.ViewOrders'. -/
def viewOrdersCard : Claim7 := { stood := { row := viewOrdersRow, standIns := [], harness := (true, "d0df7a397e6f04cba0112a85eb11e051df5933c3c13e18ec36492f2da9b7cc1d"), looks := true }, kinds := [], alts := [], laidByText := true, laidKinds := [.data, .data, .data, .sentinel, .sentinel], laidTests := true, laidLooks := .later }
def ViewOrdersCardSaid : Prop := Claim7.holds Tryz.pinned (.plain (OpenSpec.ofChange viewOrdersSpec)) viewOrdersCard

/-- THE SECOND FORM's CARD OF 'sutlerlaw14.ViewChecks'. -/
def viewChecksUptoCard : Claim7 := { stood := { row := viewChecksUptoRow, standIns := [], harness := (true, "d0df7a397e6f04cba0112a85eb11e051df5933c3c13e18ec36492f2da9b7cc1d"), looks := true }, kinds := [], alts := [], laidByText := true, laidKinds := [.data, .data, .data, .sentinel, .sentinel], laidTests := true, laidLooks := .later }
def ViewChecksUptoCardSaid : Prop := Claim7.holds Tryz.pinned (.plain (OpenSpec.upto viewChecksSpec)) viewChecksUptoCard

/-- THE SECOND FORM's CARD OF 'sutlerlaw14.ViewNodes'. -/
def viewNodesUptoCard : Claim7 := { stood := { row := viewNodesUptoRow, standIns := [], harness := (true, "d0df7a397e6f04cba0112a85eb11e051df5933c3c13e18ec36492f2da9b7cc1d"), looks := true }, kinds := [], alts := [], laidByText := true, laidKinds := [.data, .data, .data, .sentinel, .sentinel], laidTests := true, laidLooks := .later }
def ViewNodesUptoCardSaid : Prop := Claim7.holds Tryz.pinned (.plain (OpenSpec.upto viewNodesSpec)) viewNodesUptoCard

/-- THE SECOND FORM's CARD OF 'sutlerlaw14.ViewNames'. -/
def viewNamesUptoCard : Claim7 := { stood := { row := viewNamesUptoRow, standIns := [], harness := (true, "d0df7a397e6f04cba0112a85eb11e051df5933c3c13e18ec36492f2da9b7cc1d"), looks := true }, kinds := [], alts := [], laidByText := true, laidKinds := [.data, .data, .data, .sentinel, .sentinel], laidTests := true, laidLooks := .later }
def ViewNamesUptoCardSaid : Prop := Claim7.holds Tryz.pinned (.plain (OpenSpec.upto viewNamesSpec)) viewNamesUptoCard

/-- THE SECOND FORM's CARD OF 'sutlerlaw14.ViewSums'. -/
def viewSumsUptoCard : Claim7 := { stood := { row := viewSumsUptoRow, standIns := [], harness := (true, "d0df7a397e6f04cba0112a85eb11e051df5933c3c13e18ec36492f2da9b7cc1d"), looks := true }, kinds := [], alts := [], laidByText := true, laidKinds := [.data, .data, .data, .sentinel, .sentinel], laidTests := true, laidLooks := .later }
def ViewSumsUptoCardSaid : Prop := Claim7.holds Tryz.pinned (.plain (OpenSpec.upto viewSumsSpec)) viewSumsUptoCard

/-- THE SECOND FORM's CARD OF 'sutlerlaw14.ViewOrders'. -/
def viewOrdersUptoCard : Claim7 := { stood := { row := viewOrdersUptoRow, standIns := [], harness := (true, "d0df7a397e6f04cba0112a85eb11e051df5933c3c13e18ec36492f2da9b7cc1d"), looks := true }, kinds := [], alts := [], laidByText := true, laidKinds := [.data, .data, .data, .sentinel, .sentinel], laidTests := true, laidLooks := .later }
def ViewOrdersUptoCardSaid : Prop := Claim7.holds Tryz.pinned (.plain (OpenSpec.upto viewOrdersSpec)) viewOrdersUptoCard
end Rows
end Go.Proofs.YtonkoellfaopiaaGreatDoor
