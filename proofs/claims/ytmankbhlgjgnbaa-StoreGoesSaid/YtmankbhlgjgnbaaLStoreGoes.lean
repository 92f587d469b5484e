/- The law StoreGoes of the given program answers true at every input, and what came in reads as it did. No conditions. -/
-- written by a program of this session: the row of StoreGoes
import Derived.Test.YtmankbhlgjgnbaaRows
import Derived.Test.YtmankbhlgjgnbaaEOpens
import Derived.Test.YtmankbhlgjgnbaaPAllx94
import Derived.Test.YtmankbhlgjgnbaaQStoreGoes
import Derived.WalkKit
import Derived.ProofKit
import Derived.OpenShut
import Derived.ShutString
import Derived.ChangeOld
import Derived.Below
import Derived.SizedLaws
namespace Go.Proofs.Ytmankbhlgjgnbaa.storeGoes
open Go.ChangeShapes Go.WideShapes Go.ChangeAt Go.RowKit Go.Proofs.Ytmankbhlgjgnbaa.PAll Go.Proofs.YtmankbhlgjgnbaaW.PrintWords
open Go.ChangeMaps (open_string shut_string)
set_option linter.unusedVariables false
theorem own : ownKnob Try.prog.godebug = none := by kernel_rfl
theorem laidOut : laidOutB Try.prog = true := by kernel_rfl
set_option maxRecDepth 100000 in
set_option maxHeartbeats 1000000 in
theorem lifted (os : Os) (started : os.Started) (H : Type) (enc : TypeId × Value → H) :
    ReturnsInHanded {} Try.checked os 6 .any (Rows.storeGoesSpec.pre6 enc Try.prog Try.f6 Rows.storeGoesRow.domain false) (Rows.storeGoesSpec.post enc Try.prog Try.f6 false true false false) := by
  refine returnsInHanded_of_change_sized (C := Try.checked) own started (by kernel_rfl) Try.func6
    (ChangeSpec.witness6 (enc := enc) (C := Try.checked) false ⟨#[], #[.slice none 0 0], []⟩ 8 (by kernel_rfl) (by kernel_rfl) (by kernel_rfl) (by kernel_rfl)) ?_
  intro W base args ds gs before hval0 hW hcnd hsz0 _
  have hsz : (DataW.weightsEach Try.prog (Try.f6.params.toList ++ Rows.storeGoesSpec.plain.varTypes Try.prog) (ds ++ gs)).all (· ≤ reachBytes) = true := hsz0
  have hval : ∀ (j : Nat) t v, Try.f6.params[j]? = some t → args[j]? = some v → Value.okWide Try.prog W .any base t v := hval0
  have hW' := hW
  obtain ⟨p, q, hA0, hV, rfl, hfz, hnd⟩ := hW
  have hA : DataW.TrodAll enc Try.prog W 0 (fun _ => true) true Try.f6.params.toList args.toList ds p := hA0
  rw [Try.params6] at hA hval hsz
  obtain ⟨v0, vs0, d0, ds0, p0, q0, hargs, rfl, rfl, h0, r0⟩ := trodAll_cons hA
  obtain ⟨rfl, rfl, rfl⟩ := trodAll_nil r0
  obtain rfl : args = #[v0] := by cases args; simp_all
  obtain ⟨rfl, rfl⟩ := trodVars_none hV
  have lt0 : ∀ x ∈ p0, x.block < W.heap.size := by obtain ⟨m, hm⟩ := h0; exact DataW.trod_lt m _ _ _ hm
  obtain ⟨A0, len0, cap0, rfl⟩ := okWide_slice Try.underlying22 (hval 0 22 v0 rfl rfl)
  obtain ⟨x0, ⟨B0, c0, e0, hc0, hr0⟩, g0⟩ := Row.top (Row.opens_slice (B := 96) Try.underlying22 (by kernel_rfl) (by kernel_rfl) opens28) h0 hsz (j := 0) rfl rfl
  obtain ⟨rfl, rfl, rfl⟩ : A0 = B0 ∧ len0 = x0.length ∧ cap0 = c0 := by simpa [Value.cells] using e0
  clear hA0 hval0 hsz0 hsz
  have hK := Pure.StoreGoes x0 g0
  refine (sutlerlaw10_StoreGoes.calls (r := true) (w := W) (hr0 := hr0) (hc0 := hc0) (h := hK)).mono fun e W' ⟨he, bel⟩ => ?_
  subst he
  exact ⟨_, rfl, _, _, _, [], _, [], hW', trodAll_mk1 (shut_bool Try.underlying4 _), (trodAll_cons_mk (Below.trod laidOut (by kernel_rfl) (of_decide_eq_true (by kernel_rfl)) h0 bel lt0) trodAll_mk0), rfl, bel.frame _, fun h => by cases h⟩
theorem over : Rows.storeGoesRow.holds Try.pinned (OpenSpec.ofChange Rows.storeGoesSpec) :=
  OpenClaim.holds_of_wide 6 Try.f6 rfl rfl rfl rfl rfl rfl rfl ⟨rfl, rfl, rfl, rfl, rfl⟩ rfl rfl rfl rfl rfl (by kernel_rfl) Try.func6 (by kernel_rfl)
    (of_decide_eq_true (by kernel_rfl)) (by unfold Func.isWrapper; first | (rw [if_pos (by decide +kernel)]; kernel_rfl) | (rw [if_neg (by decide +kernel)]; exact ⟨rfl, rfl⟩))
    (fun os started H enc _ => lifted os started H enc)
theorem proved : Rows.StoreGoesSaid := over
#print axioms proved
end Go.Proofs.Ytmankbhlgjgnbaa.storeGoes
namespace Go.Proofs.Ytmankbhlgjgnbaa
/-- The row, under a short name, for the claim. -/
theorem storeGoes_holds : Rows.StoreGoesSaid := storeGoes.proved
end Go.Proofs.Ytmankbhlgjgnbaa
