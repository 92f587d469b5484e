/- The law SuffixNumbers of the given program answers true at every input, and what came in reads as it did. No conditions. -/
-- written by a program of this session: the row of SuffixNumbers
import Derived.Test.YtafncdmclhdkdaaDoorEDoor
import Derived.Test.YtafncdmclhdkdaaDoorTie
import Derived.Test.YtafncdmclhdkdaaDoorCards
import Derived.SevenTiedAt
import Derived.Test.YtafncdmclhdkdaaDoorRows
import Derived.Test.YtafncdmclhdkdaaDoorEOpens
import Derived.Test.YtafncdmclhdkdaaDoorPAllx4
import Derived.Test.YtafncdmclhdkdaaDoorQSuffixNumbers
import Derived.WalkKit
import Derived.ProofKit
import Derived.OpenShut
import Derived.ShutString
import Derived.ChangeOld
import Derived.Below
import Derived.SizedLaws
namespace Go.Proofs.YtafncdmclhdkdaaDoor.suffixNumbers
open Go.ChangeShapes Go.WideShapes Go.ChangeAt Go.RowKit Go.Proofs.YtafncdmclhdkdaaDoor.PAll Go.Proofs.YtafncdmclhdkdaaDoorW.PrintWords
open Go.ChangeMaps (open_string shut_string)
set_option linter.unusedVariables false
theorem own : ownKnob Tryd.prog.godebug = none := by kernel_rfl
theorem laidOut : laidOutB Tryd.prog = true := by kernel_rfl
set_option maxRecDepth 100000 in
set_option maxHeartbeats 1000000 in
theorem lifted (os : Os) (started : os.Started) (H : Type) (enc : TypeId × Value → H) :
    ReturnsInHanded {} Tryd.checked os 3 .any (fun w args => (Rows.suffixNumbersSpec.pre enc Tryd.prog Tryd.f3 Rows.suffixNumbersRow.domain false w args ∧ laidMetH Tryd.prog Rows.suffixNumbersRow.laid w) ∧ sizedMet enc Tryd.prog Tryd.f3 (OpenSpec.ofChange Rows.suffixNumbersSpec) false w args) (Rows.suffixNumbersSpec.post enc Tryd.prog Tryd.f3 false true false false) := by
  refine returnsInHanded_of_change_and (C := Tryd.checked) (X := fun w _ => laidMetH Tryd.prog Rows.suffixNumbersRow.laid w) (fun _ _ _ hh h => h.of_heap hh) own started (by kernel_rfl) Tryd.func3
    (ChangeSpec.witness_at (enc := enc) (C := Tryd.checked) (os := os) (X := fun w _ => laidMetH Tryd.prog Rows.suffixNumbersRow.laid w) false (laidWorld os) #[] 8 rfl (by kernel_rfl) (by kernel_rfl) (by kernel_rfl) (by kernel_rfl) (by kernel_rfl) (laidH_met os _)) ?_
  intro W base args ds gs before hval0 hW hcnd hsz0 hL _
  have hsz : (DataW.weightsEach Tryd.prog (Tryd.f3.params.toList ++ Rows.suffixNumbersSpec.plain.varTypes Tryd.prog) (ds ++ gs)).all (· ≤ reachBytes) = true := hsz0
  have hval : ∀ (j : Nat) t v, Tryd.f3.params[j]? = some t → args[j]? = some v → Value.okWide Tryd.prog W .any base t v := hval0
  have hW' := hW
  obtain ⟨p, q, hA0, hV, rfl, hfz, hnd⟩ := hW
  have hA : DataW.TrodAll enc Tryd.prog W 0 (fun _ => true) true Tryd.f3.params.toList args.toList ds p := hA0
  rw [Tryd.params3] at hA hval hsz
  have hg : Vars W := Vars_of_laid hL
  obtain ⟨rfl, rfl, rfl⟩ := trodAll_none hA
  obtain ⟨rfl, rfl⟩ := trodVars_none hV
  clear hA0 hval0 hsz0 hsz
  obtain ⟨K, hK⟩ := Pure.SuffixNumbers  
  refine (sutlerlaw02_SuffixNumbers.calls (k := K) (hg := hg) (r := true) (w := W)  (h := hK)).mono fun e W' ⟨he, bel⟩ => ?_
  subst he
  exact ⟨_, rfl, _, _, _, [], _, [], hW', trodAll_mk1 (shut_bool Tryd.underlying4 _), trodAll_mk0, rfl, bel.frame _, fun h => by cases h⟩
theorem over : Rows.suffixNumbersRow.holds Tryd.pinned (OpenSpec.ofChange Rows.suffixNumbersSpec) :=
  OpenClaim.holds_of_wide 3 Tryd.f3 rfl rfl rfl rfl rfl rfl rfl ⟨rfl, rfl, rfl, rfl, rfl⟩ rfl rfl rfl rfl rfl (by kernel_rfl) Tryd.func3 (by kernel_rfl)
    (of_decide_eq_true (by kernel_rfl)) (by unfold Func.isWrapper; first | (rw [if_pos (by decide +kernel)]; kernel_rfl) | (rw [if_neg (by decide +kernel)]; exact ⟨rfl, rfl⟩))
    (fun os started H enc _ => lifted os started H enc)
theorem proved : Rows.SuffixNumbersSaid := over
theorem card : Rows.SuffixNumbersCardSaid :=
  Claim7.holds_tied_plain_at .later [] [.data, .data, .data, .data, .sentinel, .sentinel, .pinned] true (true, "dce628b51e78b653008774612c962ee06cc842a7634a653c6611fa8891dcb2ef") true
    proved (fun _ h => by cases h) (by kernel_rfl) (fun _ h => by cases h) suffixNumbers_row_tie rfl ⟨rfl, rfl⟩ (by kernel_rfl) rfl
    (fun f fn hf hfn => by
      obtain rfl : f = 3 := Option.some.inj ((show Tryd.prog.funcNamed Rows.suffixNumbersRow.func = some 3 by kernel_rfl).symm.trans hf) |>.symm
      obtain rfl : fn = Tryd.f3 := (Option.some.inj (Tryd.func3.symm.trans hfn)).symm
      exact ⟨by kernel_rfl, fun j t ht => by
        rw [Tryd.params3] at ht
        simp at ht⟩)
    (by kernel_rfl)
#print axioms card
end Go.Proofs.YtafncdmclhdkdaaDoor.suffixNumbers
namespace Go.Proofs.YtafncdmclhdkdaaDoor
/-- The row, under a short name, for the claim. -/
theorem suffixNumbers_holds : Rows.SuffixNumbersCardSaid := suffixNumbers.card
end Go.Proofs.YtafncdmclhdkdaaDoor
