/-
  DERIVED. GIVEN WITH THE SEED: THE CARDS: each row of YthgdeoacplcceaaDoorRows.lean that lists a variable, with what it lists TIED to the program's text (the seventh form; the later family's looks); each row that meets fmt, with fmt's text TOLD by the authors' own Lean function (tested against real Go, not proved from fmt's source: count such statements apart). THE CARD IS WHAT COUNTS. Prove the row's statement (the work); the ties are given (YthgdeoacplcceaaDoorTie.lean); close each card by the builder's one call (the guide's Derived/Test/ToyasCard.lean, 'card_holds'). Laid BY PROGRAM, IN A SANDBOX (cutbox-door.mjs). By AI agents, Wed Nov 11 2026. No macro, syntax, notation, axiom, sorry.
-/
import Derived.Test.YthgdeoacplcceaaDoorRows
import GoSem.ClaimSeven
namespace Go.Proofs.YthgdeoacplcceaaDoor
namespace Rows

/-- THE TIED CARD OF 'sutlerlaw05.TaintNumbers'. -/
def taintNumbersCard : Claim7 := { stood := { row := taintNumbersRow, standIns := [], harness := (true, "f38cc323f351a03c786379bb756beb196006c481bc7626aca39af3d2d973da7e"), looks := true }, kinds := [], alts := [], laidByText := true, laidKinds := [.data, .data, .data, .sentinel, .sentinel], laidTests := true, laidLooks := .later }
def TaintNumbersCardSaid : Prop := Claim7.holds Tryd.pinned (.plain (OpenSpec.ofChange taintNumbersSpec)) taintNumbersCard

/-- THE TIED CARD OF 'sutlerlaw05.TaintChecks'. -/
def taintChecksCard : Claim7 := { stood := { row := taintChecksRow, standIns := [], harness := (true, "f38cc323f351a03c786379bb756beb196006c481bc7626aca39af3d2d973da7e"), looks := true }, kinds := [], alts := [], laidByText := true, laidKinds := [.data, .data, .data, .sentinel, .sentinel], laidTests := true, laidLooks := .later }
def TaintChecksCardSaid : Prop := Claim7.holds Tryd.pinned (.plain (OpenSpec.ofChange taintChecksSpec)) taintChecksCard

/-- THE TIED CARD OF 'sutlerlaw05.TaintTolerates'. -/
def taintToleratesCard : Claim7 := { stood := { row := taintToleratesRow, standIns := [], harness := (true, "f38cc323f351a03c786379bb756beb196006c481bc7626aca39af3d2d973da7e"), looks := true }, kinds := [], alts := [], laidByText := true, laidKinds := [.data, .data, .data, .sentinel, .sentinel], laidTests := true, laidLooks := .later }
def TaintToleratesCardSaid : Prop := Claim7.holds Tryd.pinned (.plain (OpenSpec.ofChange taintToleratesSpec)) taintToleratesCard

/-- THE TIED CARD OF 'sutlerlaw05.TaintMore'. -/
def taintMoreCard : Claim7 := { stood := { row := taintMoreRow, standIns := [], harness := (true, "f38cc323f351a03c786379bb756beb196006c481bc7626aca39af3d2d973da7e"), looks := true }, kinds := [], alts := [], laidByText := true, laidKinds := [.data, .data, .data, .sentinel, .sentinel], laidTests := true, laidLooks := .later }
def TaintMoreCardSaid : Prop := Claim7.holds Tryd.pinned (.plain (OpenSpec.ofChange taintMoreSpec)) taintMoreCard

/-- THE SECOND FORM's CARD OF 'sutlerlaw05.TaintNumbers'. -/
def taintNumbersUptoCard : Claim7 := { stood := { row := taintNumbersUptoRow, standIns := [], harness := (true, "f38cc323f351a03c786379bb756beb196006c481bc7626aca39af3d2d973da7e"), looks := true }, kinds := [], alts := [], laidByText := true, laidKinds := [.data, .data, .data, .sentinel, .sentinel], laidTests := true, laidLooks := .later }
def TaintNumbersUptoCardSaid : Prop := Claim7.holds Tryd.pinned (.plain (OpenSpec.upto taintNumbersSpec)) taintNumbersUptoCard

/-- THE SECOND FORM's CARD OF 'sutlerlaw05.TaintChecks'. -/
def taintChecksUptoCard : Claim7 := { stood := { row := taintChecksUptoRow, standIns := [], harness := (true, "f38cc323f351a03c786379bb756beb196006c481bc7626aca39af3d2d973da7e"), looks := true }, kinds := [], alts := [], laidByText := true, laidKinds := [.data, .data, .data, .sentinel, .sentinel], laidTests := true, laidLooks := .later }
def TaintChecksUptoCardSaid : Prop := Claim7.holds Tryd.pinned (.plain (OpenSpec.upto taintChecksSpec)) taintChecksUptoCard

/-- THE SECOND FORM's CARD OF 'sutlerlaw05.TaintTolerates'. -/
def taintToleratesUptoCard : Claim7 := { stood := { row := taintToleratesUptoRow, standIns := [], harness := (true, "f38cc323f351a03c786379bb756beb196006c481bc7626aca39af3d2d973da7e"), looks := true }, kinds := [], alts := [], laidByText := true, laidKinds := [.data, .data, .data, .sentinel, .sentinel], laidTests := true, laidLooks := .later }
def TaintToleratesUptoCardSaid : Prop := Claim7.holds Tryd.pinned (.plain (OpenSpec.upto taintToleratesSpec)) taintToleratesUptoCard

/-- THE SECOND FORM's CARD OF 'sutlerlaw05.TaintMore'. -/
def taintMoreUptoCard : Claim7 := { stood := { row := taintMoreUptoRow, standIns := [], harness := (true, "f38cc323f351a03c786379bb756beb196006c481bc7626aca39af3d2d973da7e"), looks := true }, kinds := [], alts := [], laidByText := true, laidKinds := [.data, .data, .data, .sentinel, .sentinel], laidTests := true, laidLooks := .later }
def TaintMoreUptoCardSaid : Prop := Claim7.holds Tryd.pinned (.plain (OpenSpec.upto taintMoreSpec)) taintMoreUptoCard
end Rows
end Go.Proofs.YthgdeoacplcceaaDoor
