/-
  No cell of these rows narrows 'for every input' (looked for: loops, veiled, ifaces, maps, wideKeys, modest, calm, conditions, laid).
  DERIVED. THE GIVEN ROWS OF THIS SEAT. 4 by the template 'for every input the law returns true; each argument reads behind the call as it read before'; 0 by the template 'total and deterministic' (their statements: YtmankbhlgjgnbaaTotals.lean).
  GIVEN WITH THE SEED: the statements are not yours to turn. If you find one false, say at which input.
  Laid BY PROGRAM, IN A SANDBOX (cutbox-rows.mjs): the forced cells as the released guide's own fill.sh prints them over the translation f8e72ad4c049e1cf… (all of the seat's roots in one cut). By AI agents, Wed Nov 11 2026. No macro, syntax, notation, axiom, sorry.
-/
import Derived.Test.YtmankbhlgjgnbaaChecked
import GoSem.Claim
import GoSem.ClaimJoined
import GoSem.ClaimMapViews
import Derived.JoinedTies
import Derived.KernelRfl
namespace Go.Proofs.Ytmankbhlgjgnbaa
/- THE CELL 'sum', in the pinned program and in every row, IS THE sha256 OF THE DUMP (.gsa) THAT YtmankbhlgjgnbaaProg.lean LOADS. Nothing in Lean hashes anything: it is a label: what it is worth is what the hold of that sum in a sandbox is worth. -/
noncomputable def Try.pinned : Pinned := { name := "ytmankbhlgjgnbaa", sum := "f8e72ad4c049e1cf53e3023eef95d016e6715b13a1abdfad4d9367b749e62826", checked := Try.checked }
namespace Rows
def none {H : Type} : Left H := { results := [], args := [] }

/-- 'sutlerlaw10.StoreVersions': WHATEVER THE INPUT: true; the input reads as it did. -/
def storeVersionsSpec : ChangeSpec := { name := "storeVersions", fn := fun _ => fun
  | [d] => { results := [.lit (.bool true)], args := [d] }
  | _ => none }
def storeVersionsRow : OpenClaim := { program := "ytmankbhlgjgnbaa", sum := "f8e72ad4c049e1cf53e3023eef95d016e6715b13a1abdfad4d9367b749e62826", func := "sutler/sutlerlaw10.StoreVersions", spec := "storeVersions", inPlace := ["slices.overlaps[string]"], plainKeys := false, apart := false }
def StoreVersionsSaid : Prop := storeVersionsRow.holds Try.pinned (OpenSpec.ofChange storeVersionsSpec)

/-- ITS FALSE NEIGHBOUR: 'it returns false'. Refute it at one input. -/
def storeVersionsWrong : ChangeSpec := { name := "storeVersions", fn := fun _ => fun
  | [d] => { results := [.lit (.bool false)], args := [d] }
  | _ => none }
def StoreVersionsWrongFalsely : Prop := storeVersionsRow.holds Try.pinned (OpenSpec.ofChange storeVersionsWrong)

/-- 'sutlerlaw10.StoreHeld': WHATEVER THE INPUT: true; the input reads as it did. -/
def storeHeldSpec : ChangeSpec := { name := "storeHeld", fn := fun _ => fun
  | [d] => { results := [.lit (.bool true)], args := [d] }
  | _ => none }
def storeHeldRow : OpenClaim := { program := "ytmankbhlgjgnbaa", sum := "f8e72ad4c049e1cf53e3023eef95d016e6715b13a1abdfad4d9367b749e62826", func := "sutler/sutlerlaw10.StoreHeld", spec := "storeHeld", inPlace := ["slices.overlaps[string]"], plainKeys := false, apart := false }
def StoreHeldSaid : Prop := storeHeldRow.holds Try.pinned (OpenSpec.ofChange storeHeldSpec)

/-- ITS FALSE NEIGHBOUR: 'it returns false'. Refute it at one input. -/
def storeHeldWrong : ChangeSpec := { name := "storeHeld", fn := fun _ => fun
  | [d] => { results := [.lit (.bool false)], args := [d] }
  | _ => none }
def StoreHeldWrongFalsely : Prop := storeHeldRow.holds Try.pinned (OpenSpec.ofChange storeHeldWrong)

/-- 'sutlerlaw10.StoreRefuses': WHATEVER THE INPUT: true; the input reads as it did. -/
def storeRefusesSpec : ChangeSpec := { name := "storeRefuses", fn := fun _ => fun
  | [d] => { results := [.lit (.bool true)], args := [d] }
  | _ => none }
def storeRefusesRow : OpenClaim := { program := "ytmankbhlgjgnbaa", sum := "f8e72ad4c049e1cf53e3023eef95d016e6715b13a1abdfad4d9367b749e62826", func := "sutler/sutlerlaw10.StoreRefuses", spec := "storeRefuses", inPlace := ["slices.overlaps[string]"], plainKeys := false, apart := false }
def StoreRefusesSaid : Prop := storeRefusesRow.holds Try.pinned (OpenSpec.ofChange storeRefusesSpec)

/-- ITS FALSE NEIGHBOUR: 'it returns false'. Refute it at one input. -/
def storeRefusesWrong : ChangeSpec := { name := "storeRefuses", fn := fun _ => fun
  | [d] => { results := [.lit (.bool false)], args := [d] }
  | _ => none }
def StoreRefusesWrongFalsely : Prop := storeRefusesRow.holds Try.pinned (OpenSpec.ofChange storeRefusesWrong)

/-- 'sutlerlaw10.StoreGoes': WHATEVER THE INPUT: true; the input reads as it did. -/
def storeGoesSpec : ChangeSpec := { name := "storeGoes", fn := fun _ => fun
  | [d] => { results := [.lit (.bool true)], args := [d] }
  | _ => none }
def storeGoesRow : OpenClaim := { program := "ytmankbhlgjgnbaa", sum := "f8e72ad4c049e1cf53e3023eef95d016e6715b13a1abdfad4d9367b749e62826", func := "sutler/sutlerlaw10.StoreGoes", spec := "storeGoes", inPlace := ["slices.overlaps[string]", "internal/bytealg.abigen_runtime_cmpstring"], unfollowed := true, recurses := true, plainKeys := false, apart := false }
def StoreGoesSaid : Prop := storeGoesRow.holds Try.pinned (OpenSpec.ofChange storeGoesSpec)

/-- ITS FALSE NEIGHBOUR: 'it returns false'. Refute it at one input. -/
def storeGoesWrong : ChangeSpec := { name := "storeGoes", fn := fun _ => fun
  | [d] => { results := [.lit (.bool false)], args := [d] }
  | _ => none }
def StoreGoesWrongFalsely : Prop := storeGoesRow.holds Try.pinned (OpenSpec.ofChange storeGoesWrong)

/- THE SECOND FORM. 'bulk': how many values and letters a reading holds, each counted each time it is reached (what is shared counts as often as it is met; a slice's spare places count too). A statement '..UptoSaid' is the law's where the arguments, and the package variables that the reading takes, are together of bulk at most 1048576: NARROWER than '..Said'. Prove '..Said' where nothing that the law and all that it calls make is longer than what came in: it says more and counts as full. Else prove '..UptoSaid'. A law counts once. -/
mutual
def uptoBulk {H : Type} : DataW H → Nat
  | .lit (.string bytes) => bytes.length + 1
  | .lit _ => 1
  | .nil => 1
  | .ptr d => uptoBulk d + 1
  | .slice elems spare => uptoBulkAll elems + uptoBulkAll spare + 1
  | .agg parts => uptoBulkAll parts + 1
  | .iface _ d => uptoBulk d + 1
  | .map entries => uptoBulkEntries entries + 1
  | .held _ => 1
def uptoBulkAll {H : Type} : List (DataW H) → Nat
  | [] => 0
  | d :: r => uptoBulk d + uptoBulkAll r
def uptoBulkEntries {H : Type} : List (Lit × DataW H) → Nat
  | [] => 0
  | x :: r => uptoBulkEntry x + uptoBulkEntries r
def uptoBulkEntry {H : Type} : Lit × DataW H → Nat
  | (.string bytes, d) => bytes.length + uptoBulk d + 1
  | (_, d) => uptoBulk d + 1
 end
def uptoSmall : (H : Type) → List (DataW H) → Bool := fun _ ds => decide (uptoBulkAll ds ≤ 1048576)
def OpenSpec.upto (s : _root_.Go.ChangeSpec) : _root_.Go.OpenSpec := { _root_.Go.OpenSpec.ofChange s with cond := some uptoSmall }

/-- 'sutlerlaw10.StoreVersions', WHERE WHAT IT READS IS OF BULK AT MOST 1048576: true; the input reads as it did. -/
def storeVersionsUptoRow : OpenClaim := { program := "ytmankbhlgjgnbaa", sum := "f8e72ad4c049e1cf53e3023eef95d016e6715b13a1abdfad4d9367b749e62826", func := "sutler/sutlerlaw10.StoreVersions", spec := "storeVersions", inPlace := ["slices.overlaps[string]"], plainKeys := false, apart := false, narrowed := true }
def StoreVersionsUptoSaid : Prop := storeVersionsUptoRow.holds Try.pinned (OpenSpec.upto storeVersionsSpec)

/-- 'sutlerlaw10.StoreHeld', WHERE WHAT IT READS IS OF BULK AT MOST 1048576: true; the input reads as it did. -/
def storeHeldUptoRow : OpenClaim := { program := "ytmankbhlgjgnbaa", sum := "f8e72ad4c049e1cf53e3023eef95d016e6715b13a1abdfad4d9367b749e62826", func := "sutler/sutlerlaw10.StoreHeld", spec := "storeHeld", inPlace := ["slices.overlaps[string]"], plainKeys := false, apart := false, narrowed := true }
def StoreHeldUptoSaid : Prop := storeHeldUptoRow.holds Try.pinned (OpenSpec.upto storeHeldSpec)

/-- 'sutlerlaw10.StoreRefuses', WHERE WHAT IT READS IS OF BULK AT MOST 1048576: true; the input reads as it did. -/
def storeRefusesUptoRow : OpenClaim := { program := "ytmankbhlgjgnbaa", sum := "f8e72ad4c049e1cf53e3023eef95d016e6715b13a1abdfad4d9367b749e62826", func := "sutler/sutlerlaw10.StoreRefuses", spec := "storeRefuses", inPlace := ["slices.overlaps[string]"], plainKeys := false, apart := false, narrowed := true }
def StoreRefusesUptoSaid : Prop := storeRefusesUptoRow.holds Try.pinned (OpenSpec.upto storeRefusesSpec)

/-- 'sutlerlaw10.StoreGoes', WHERE WHAT IT READS IS OF BULK AT MOST 1048576: true; the input reads as it did. -/
def storeGoesUptoRow : OpenClaim := { program := "ytmankbhlgjgnbaa", sum := "f8e72ad4c049e1cf53e3023eef95d016e6715b13a1abdfad4d9367b749e62826", func := "sutler/sutlerlaw10.StoreGoes", spec := "storeGoes", inPlace := ["slices.overlaps[string]", "internal/bytealg.abigen_runtime_cmpstring"], unfollowed := true, recurses := true, plainKeys := false, apart := false, narrowed := true }
def StoreGoesUptoSaid : Prop := storeGoesUptoRow.holds Try.pinned (OpenSpec.upto storeGoesSpec)

end Rows
end Go.Proofs.Ytmankbhlgjgnbaa
