/-
  No cell of these rows narrows 'for every input' (looked for: loops, veiled, ifaces, maps, wideKeys, modest, calm, conditions, laid).
  DERIVED. THE GIVEN ROWS OF THIS SEAT. 5 by the template 'for every input the law returns true; each argument reads behind the call as it read before'; 0 by the template 'total and deterministic' (their statements: YtiodidhbkgnicaaTotals.lean).
  GIVEN WITH THE SEED: the statements are not yours to turn. If you find one false, say at which input.
  Laid BY PROGRAM, IN A SANDBOX (cutbox-rows.mjs): the forced cells as the released guide's own fill.sh prints them over the translation bd01fe16692d07fd… (all of the seat's roots in one cut). By AI agents, Wed Nov 11 2026. No macro, syntax, notation, axiom, sorry.
-/
import Derived.Test.YtiodidhbkgnicaaChecked
import GoSem.Claim
import GoSem.ClaimJoined
import GoSem.ClaimMapViews
import Derived.JoinedTies
import Derived.KernelRfl
namespace Go.Proofs.Ytiodidhbkgnicaa
/- THE CELL 'sum', in the pinned program and in every row, IS THE sha256 OF THE DUMP (.gsa) THAT YtiodidhbkgnicaaProg.lean LOADS. Nothing in Lean hashes anything: it is a label: what it is worth is what the hold of that sum in a sandbox is worth. -/
noncomputable def Try.pinned : Pinned := { name := "ytiodidhbkgnicaa", sum := "bd01fe16692d07fd9463d9649ebf9e39c262a2d1c189cd66f953dd0f3fe5c7f5", checked := Try.checked }
namespace Rows
def none {H : Type} : Left H := { results := [], args := [] }

/-- 'sutlerlaw07.CoolNumbers': WHATEVER THE INPUT: true; the input reads as it did. -/
def coolNumbersSpec : ChangeSpec := { name := "coolNumbers", fn := fun _ => fun
  | [] => { results := [.lit (.bool true)], args := [] }
  | _ => none }
def coolNumbersRow : OpenClaim := { program := "ytiodidhbkgnicaa", sum := "bd01fe16692d07fd9463d9649ebf9e39c262a2d1c189cd66f953dd0f3fe5c7f5", func := "sutler/sutlerlaw07.CoolNumbers", spec := "coolNumbers", inPlace := ["internal/bytealg.abigen_runtime_cmpstring", "slices.overlaps[sutler/api.Cooling]"], unfollowed := true, recurses := true, plainKeys := false, apart := false }
def CoolNumbersSaid : Prop := coolNumbersRow.holds Try.pinned (OpenSpec.ofChange coolNumbersSpec)

/-- ITS FALSE NEIGHBOUR: 'it returns false'. Refute it at one input. -/
def coolNumbersWrong : ChangeSpec := { name := "coolNumbers", fn := fun _ => fun
  | [] => { results := [.lit (.bool false)], args := [] }
  | _ => none }
def CoolNumbersWrongFalsely : Prop := coolNumbersRow.holds Try.pinned (OpenSpec.ofChange coolNumbersWrong)

/-- 'sutlerlaw07.CoolChecks': WHATEVER THE INPUT: true; the input reads as it did. -/
def coolChecksSpec : ChangeSpec := { name := "coolChecks", fn := fun _ => fun
  | [d1, d2] => { results := [.lit (.bool true)], args := [d1, d2] }
  | _ => none }
def coolChecksRow : OpenClaim := { program := "ytiodidhbkgnicaa", sum := "bd01fe16692d07fd9463d9649ebf9e39c262a2d1c189cd66f953dd0f3fe5c7f5", func := "sutler/sutlerlaw07.CoolChecks", spec := "coolChecks", inPlace := ["internal/bytealg.abigen_runtime_cmpstring", "slices.overlaps[sutler/api.Cooling]"], unfollowed := true, recurses := true, plainKeys := false, apart := false }
def CoolChecksSaid : Prop := coolChecksRow.holds Try.pinned (OpenSpec.ofChange coolChecksSpec)

/-- ITS FALSE NEIGHBOUR: 'it returns false'. Refute it at one input. -/
def coolChecksWrong : ChangeSpec := { name := "coolChecks", fn := fun _ => fun
  | [d1, d2] => { results := [.lit (.bool false)], args := [d1, d2] }
  | _ => none }
def CoolChecksWrongFalsely : Prop := coolChecksRow.holds Try.pinned (OpenSpec.ofChange coolChecksWrong)

/-- 'sutlerlaw07.CoolAsks': WHATEVER THE INPUT: true; the input reads as it did. -/
def coolAsksSpec : ChangeSpec := { name := "coolAsks", fn := fun _ => fun
  | [d1, d2, d3] => { results := [.lit (.bool true)], args := [d1, d2, d3] }
  | _ => none }
def coolAsksRow : OpenClaim := { program := "ytiodidhbkgnicaa", sum := "bd01fe16692d07fd9463d9649ebf9e39c262a2d1c189cd66f953dd0f3fe5c7f5", func := "sutler/sutlerlaw07.CoolAsks", spec := "coolAsks", inPlace := ["internal/bytealg.abigen_runtime_cmpstring", "slices.overlaps[sutler/api.Cooling]"], unfollowed := true, recurses := true, plainKeys := false, apart := false }
def CoolAsksSaid : Prop := coolAsksRow.holds Try.pinned (OpenSpec.ofChange coolAsksSpec)

/-- ITS FALSE NEIGHBOUR: 'it returns false'. Refute it at one input. -/
def coolAsksWrong : ChangeSpec := { name := "coolAsks", fn := fun _ => fun
  | [d1, d2, d3] => { results := [.lit (.bool false)], args := [d1, d2, d3] }
  | _ => none }
def CoolAsksWrongFalsely : Prop := coolAsksRow.holds Try.pinned (OpenSpec.ofChange coolAsksWrong)

/-- 'sutlerlaw07.CoolPut': WHATEVER THE INPUT: true; the input reads as it did. -/
def coolPutSpec : ChangeSpec := { name := "coolPut", fn := fun _ => fun
  | [d] => { results := [.lit (.bool true)], args := [d] }
  | _ => none }
def coolPutRow : OpenClaim := { program := "ytiodidhbkgnicaa", sum := "bd01fe16692d07fd9463d9649ebf9e39c262a2d1c189cd66f953dd0f3fe5c7f5", func := "sutler/sutlerlaw07.CoolPut", spec := "coolPut", inPlace := ["internal/bytealg.abigen_runtime_cmpstring", "slices.overlaps[sutler/api.Cooling]"], unfollowed := true, recurses := true, plainKeys := false, apart := false }
def CoolPutSaid : Prop := coolPutRow.holds Try.pinned (OpenSpec.ofChange coolPutSpec)

/-- ITS FALSE NEIGHBOUR: 'it returns false'. Refute it at one input. -/
def coolPutWrong : ChangeSpec := { name := "coolPut", fn := fun _ => fun
  | [d] => { results := [.lit (.bool false)], args := [d] }
  | _ => none }
def CoolPutWrongFalsely : Prop := coolPutRow.holds Try.pinned (OpenSpec.ofChange coolPutWrong)

/-- 'sutlerlaw07.CoolNext': WHATEVER THE INPUT: true; the input reads as it did. -/
def coolNextSpec : ChangeSpec := { name := "coolNext", fn := fun _ => fun
  | [d] => { results := [.lit (.bool true)], args := [d] }
  | _ => none }
def coolNextRow : OpenClaim := { program := "ytiodidhbkgnicaa", sum := "bd01fe16692d07fd9463d9649ebf9e39c262a2d1c189cd66f953dd0f3fe5c7f5", func := "sutler/sutlerlaw07.CoolNext", spec := "coolNext", inPlace := ["internal/bytealg.abigen_runtime_cmpstring", "slices.overlaps[sutler/api.Cooling]"], unfollowed := true, recurses := true, plainKeys := false, apart := false }
def CoolNextSaid : Prop := coolNextRow.holds Try.pinned (OpenSpec.ofChange coolNextSpec)

/-- ITS FALSE NEIGHBOUR: 'it returns false'. Refute it at one input. -/
def coolNextWrong : ChangeSpec := { name := "coolNext", fn := fun _ => fun
  | [d] => { results := [.lit (.bool false)], args := [d] }
  | _ => none }
def CoolNextWrongFalsely : Prop := coolNextRow.holds Try.pinned (OpenSpec.ofChange coolNextWrong)

/- THE SECOND FORM. 'bulk': how many values and letters a reading holds, each counted each time it is reached (what is shared counts as often as it is met; a slice's spare places count too). A statement '..UptoSaid' is the law's where the arguments, and the package variables that the reading takes, are together of bulk at most 1048576: NARROWER than '..Said'. Prove '..Said' where nothing that the law and all that it calls make is longer than what came in: it says more and counts as full. Else prove '..UptoSaid'. A law counts once. -/
mutual
def uptoBulk {H : Type} : DataW H → Nat
  | .lit (.string bytes) => bytes.length + 1
  | .lit _ => 1
  | .nil => 1
  | .ptr d => uptoBulk d + 1
  | .slice elems spare => uptoBulkAll elems + uptoBulkAll spare + 1
  | .agg parts => uptoBulkAll parts + 1
  | .iface _ d => uptoBulk d + 1
  | .map entries => uptoBulkEntries entries + 1
  | .held _ => 1
def uptoBulkAll {H : Type} : List (DataW H) → Nat
  | [] => 0
  | d :: r => uptoBulk d + uptoBulkAll r
def uptoBulkEntries {H : Type} : List (Lit × DataW H) → Nat
  | [] => 0
  | x :: r => uptoBulkEntry x + uptoBulkEntries r
def uptoBulkEntry {H : Type} : Lit × DataW H → Nat
  | (.string bytes, d) => bytes.length + uptoBulk d + 1
  | (_, d) => uptoBulk d + 1
 end
def uptoSmall : (H : Type) → List (DataW H) → Bool := fun _ ds => decide (uptoBulkAll ds ≤ 1048576)
def OpenSpec.upto (s : _root_.Go.ChangeSpec) : _root_.Go.OpenSpec := { _root_.Go.OpenSpec.ofChange s with cond := some uptoSmall }

/-- 'sutlerlaw07.CoolNumbers', WHERE WHAT IT READS IS OF BULK AT MOST 1048576: true; the input reads as it did. -/
def coolNumbersUptoRow : OpenClaim := { program := "ytiodidhbkgnicaa", sum := "bd01fe16692d07fd9463d9649ebf9e39c262a2d1c189cd66f953dd0f3fe5c7f5", func := "sutler/sutlerlaw07.CoolNumbers", spec := "coolNumbers", inPlace := ["internal/bytealg.abigen_runtime_cmpstring", "slices.overlaps[sutler/api.Cooling]"], unfollowed := true, recurses := true, plainKeys := false, apart := false, narrowed := true }
def CoolNumbersUptoSaid : Prop := coolNumbersUptoRow.holds Try.pinned (OpenSpec.upto coolNumbersSpec)

/-- 'sutlerlaw07.CoolChecks', WHERE WHAT IT READS IS OF BULK AT MOST 1048576: true; the input reads as it did. -/
def coolChecksUptoRow : OpenClaim := { program := "ytiodidhbkgnicaa", sum := "bd01fe16692d07fd9463d9649ebf9e39c262a2d1c189cd66f953dd0f3fe5c7f5", func := "sutler/sutlerlaw07.CoolChecks", spec := "coolChecks", inPlace := ["internal/bytealg.abigen_runtime_cmpstring", "slices.overlaps[sutler/api.Cooling]"], unfollowed := true, recurses := true, plainKeys := false, apart := false, narrowed := true }
def CoolChecksUptoSaid : Prop := coolChecksUptoRow.holds Try.pinned (OpenSpec.upto coolChecksSpec)

/-- 'sutlerlaw07.CoolAsks', WHERE WHAT IT READS IS OF BULK AT MOST 1048576: true; the input reads as it did. -/
def coolAsksUptoRow : OpenClaim := { program := "ytiodidhbkgnicaa", sum := "bd01fe16692d07fd9463d9649ebf9e39c262a2d1c189cd66f953dd0f3fe5c7f5", func := "sutler/sutlerlaw07.CoolAsks", spec := "coolAsks", inPlace := ["internal/bytealg.abigen_runtime_cmpstring", "slices.overlaps[sutler/api.Cooling]"], unfollowed := true, recurses := true, plainKeys := false, apart := false, narrowed := true }
def CoolAsksUptoSaid : Prop := coolAsksUptoRow.holds Try.pinned (OpenSpec.upto coolAsksSpec)

/-- 'sutlerlaw07.CoolPut', WHERE WHAT IT READS IS OF BULK AT MOST 1048576: true; the input reads as it did. -/
def coolPutUptoRow : OpenClaim := { program := "ytiodidhbkgnicaa", sum := "bd01fe16692d07fd9463d9649ebf9e39c262a2d1c189cd66f953dd0f3fe5c7f5", func := "sutler/sutlerlaw07.CoolPut", spec := "coolPut", inPlace := ["internal/bytealg.abigen_runtime_cmpstring", "slices.overlaps[sutler/api.Cooling]"], unfollowed := true, recurses := true, plainKeys := false, apart := false, narrowed := true }
def CoolPutUptoSaid : Prop := coolPutUptoRow.holds Try.pinned (OpenSpec.upto coolPutSpec)

/-- 'sutlerlaw07.CoolNext', WHERE WHAT IT READS IS OF BULK AT MOST 1048576: true; the input reads as it did. -/
def coolNextUptoRow : OpenClaim := { program := "ytiodidhbkgnicaa", sum := "bd01fe16692d07fd9463d9649ebf9e39c262a2d1c189cd66f953dd0f3fe5c7f5", func := "sutler/sutlerlaw07.CoolNext", spec := "coolNext", inPlace := ["internal/bytealg.abigen_runtime_cmpstring", "slices.overlaps[sutler/api.Cooling]"], unfollowed := true, recurses := true, plainKeys := false, apart := false, narrowed := true }
def CoolNextUptoSaid : Prop := coolNextUptoRow.holds Try.pinned (OpenSpec.upto coolNextSpec)

end Rows
end Go.Proofs.Ytiodidhbkgnicaa
