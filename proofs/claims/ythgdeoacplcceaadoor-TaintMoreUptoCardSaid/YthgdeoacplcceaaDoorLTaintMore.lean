/- The law TaintMore of the given program answers true at every input, and what came in reads as it did. No conditions. -/
-- written by a program of this session: the row of TaintMore
import Derived.Test.YthgdeoacplcceaaDoorECond
import Derived.Test.YthgdeoacplcceaaDoorEDoor
import Derived.Test.YthgdeoacplcceaaDoorTie
import Derived.Test.YthgdeoacplcceaaDoorCards
import Derived.SevenTiedAt
import Derived.Test.YthgdeoacplcceaaDoorRows
import Derived.Test.YthgdeoacplcceaaDoorEOpens
import Derived.Test.YthgdeoacplcceaaDoorPAllx14
import Derived.Test.YthgdeoacplcceaaDoorQTaintMore
import Derived.WalkKit
import Derived.ProofKit
import Derived.OpenShut
import Derived.ShutString
import Derived.ChangeOld
import Derived.Below
import Derived.SizedLaws
namespace Go.Proofs.YthgdeoacplcceaaDoor.taintMore
open Go.ChangeShapes Go.WideShapes Go.ChangeAt Go.RowKit Go.Proofs.YthgdeoacplcceaaDoor.PAll Go.Proofs.YthgdeoacplcceaaDoorW.PrintWords
open Go.ChangeMaps (open_string shut_string)
set_option linter.unusedVariables false
theorem own : ownKnob Tryd.prog.godebug = none := by kernel_rfl
theorem laidOut : laidOutB Tryd.prog = true := by kernel_rfl
set_option maxRecDepth 100000 in
set_option maxHeartbeats 1000000 in
theorem lifted (os : Os) (started : os.Started) (H : Type) (enc : TypeId × Value → H) (F : Stop.Interp) :
    ReturnsInHanded {} Tryd.checked os 6 .any (fun w args => ((Rows.OpenSpec.upto Rows.taintMoreSpec).pre enc Tryd.prog Tryd.f6 Rows.taintMoreUptoRow.domain false w args ∧ laidMetH Tryd.prog Rows.taintMoreUptoRow.laid w) ∧ sizedMet enc Tryd.prog Tryd.f6 (Rows.OpenSpec.upto Rows.taintMoreSpec) false w args) (((Rows.OpenSpec.upto Rows.taintMoreSpec).at F).post enc Tryd.prog Tryd.f6 false true false false) := by
  refine Cond.returns (C := Tryd.checked) (k := Rows.uptoSmall) rfl (X := fun w _ => laidMetH Tryd.prog Rows.taintMoreUptoRow.laid w) (fun _ _ _ hh h => h.of_heap hh) own started (by kernel_rfl) Tryd.func6
    (Cond.witness_at (enc := enc) (C := Tryd.checked) (os := os) (k := Rows.uptoSmall) rfl (X := fun w _ => laidMetH Tryd.prog Rows.taintMoreUptoRow.laid w) false (laidWorld os) #[.agg #[.slice none 0 0, .slice none 0 0, .slice none 0 0, .slice none 0 0]] 8 rfl (by kernel_rfl) (by kernel_rfl) (by kernel_rfl) (x := ([.agg [.nil, .nil, .nil, .nil]], [], [])) (by kernel_rfl) (by kernel_rfl) (by kernel_rfl) (by kernel_rfl) (laidH_met os _)) ?_
  intro W base args ds gs before hval0 hW hcnd hkk hsz0 hL _
  have hsz : (DataW.weightsEach Tryd.prog (Tryd.f6.params.toList ++ Rows.taintMoreSpec.plain.varTypes Tryd.prog) (ds ++ gs)).all (· ≤ reachBytes) = true := hsz0
  have hval : ∀ (j : Nat) t v, Tryd.f6.params[j]? = some t → args[j]? = some v → Value.okWide Tryd.prog W .any base t v := hval0
  have hW' := hW
  obtain ⟨p, q, hA0, hV, rfl, hfz, hnd⟩ := hW
  have hA : DataW.TrodAll enc Tryd.prog W 0 (fun _ => true) true Tryd.f6.params.toList args.toList ds p := hA0
  rw [Tryd.params6] at hA hval hsz
  have hg : Vars W := Vars_of_laid hL
  obtain ⟨v0, vs0, d0, ds0, p0, q0, hargs, rfl, rfl, h0, r0⟩ := trodAll_cons hA
  obtain ⟨rfl, rfl, rfl⟩ := trodAll_nil r0
  obtain rfl : args = #[v0] := by cases args; simp_all
  obtain ⟨rfl, rfl⟩ := trodVars_none hV
  have lt0 : ∀ x ∈ p0, x.block < W.heap.size := by obtain ⟨m, hm⟩ := h0; exact DataW.trod_lt m _ _ _ hm
  obtain ⟨cs0, rfl, _⟩ := okWide_struct Tryd.underlying38 (hval 0 38 v0 rfl rfl)
  obtain ⟨x0, K0, g0, u0⟩ := Row.topU opensU38 h0 hsz hkk (j := 0) rfl rfl
  obtain ⟨CK0_0, CK0_1, EK0, K0_0, K0_1⟩ := K0
  obtain ⟨B0_0, c0_0, EK0_0, hc0_0, hr0_0⟩ := K0_0
  obtain ⟨CK0_1_0, CK0_1_1, EK0_1, K0_1_0, K0_1_1⟩ := K0_1
  obtain ⟨B0_1, c0_1, EK0_1_0, hc0_1, hr0_1⟩ := K0_1_0
  obtain ⟨CK0_1_1_0, CK0_1_1_1, EK0_1_1, K0_1_1_0, K0_1_1_1⟩ := K0_1_1
  obtain ⟨B0_2, c0_2, EK0_1_1_0, hc0_2, hr0_2⟩ := K0_1_1_0
  obtain ⟨B0_3, c0_3, EK0_1_1_1, hc0_3, hr0_3⟩ := K0_1_1_1
  obtain rfl : cs0 = #[.slice B0_0 x0.1.length c0_0, .slice B0_1 x0.2.1.length c0_1, .slice B0_2 x0.2.2.1.length c0_2, .slice B0_3 x0.2.2.2.length c0_3] := by
    have E : cs0.toList = [.slice B0_0 x0.1.length c0_0, .slice B0_1 x0.2.1.length c0_1, .slice B0_2 x0.2.2.1.length c0_2, .slice B0_3 x0.2.2.2.length c0_3] := by
      have E0 : cs0.toList = _ := EK0
      rw [E0]
      rw [EK0_0, EK0_1, EK0_1_0, EK0_1_1, EK0_1_1_0, EK0_1_1_1]
      rfl
    exact Array.ext' E
  clear hA0 hval0 hsz0 hsz
  obtain ⟨K, hK⟩ := Pure.TaintMore x0 g0 u0
  refine (sutlerlaw05_TaintMore.calls (k := K) (hg := hg) (r := true) (w := W) (hr0_0 := hr0_0) (hc0_0 := hc0_0) (hr0_1 := hr0_1) (hc0_1 := hc0_1) (hr0_2 := hr0_2) (hc0_2 := hc0_2) (hr0_3 := hr0_3) (hc0_3 := hc0_3) (h := hK)).mono fun e W' ⟨he, bel⟩ => ?_
  subst he
  exact ⟨_, rfl, _, _, _, [], _, [], hW', trodAll_mk1 (shut_bool Tryd.underlying4 _), (trodAll_cons_mk (Below.trod laidOut (by kernel_rfl) (of_decide_eq_true (by kernel_rfl)) h0 bel lt0) trodAll_mk0), rfl, bel.frame _, fun h => by cases h⟩
theorem over : Rows.taintMoreUptoRow.holds Tryd.pinned (Rows.OpenSpec.upto Rows.taintMoreSpec) :=
  OpenClaim.holds_of_cond 6 Tryd.f6 rfl rfl rfl rfl rfl rfl rfl ⟨rfl, rfl, rfl, rfl, rfl⟩ rfl rfl rfl rfl rfl (by kernel_rfl) Tryd.func6 (by kernel_rfl)
    (of_decide_eq_true (by kernel_rfl)) (by unfold Func.isWrapper; first | (rw [if_pos (by decide +kernel)]; kernel_rfl) | (rw [if_neg (by decide +kernel)]; exact ⟨rfl, rfl⟩))
    (fun os started H enc _ F => lifted os started H enc F)
theorem proved : Rows.TaintMoreUptoSaid := over
theorem card : Rows.TaintMoreUptoCardSaid :=
  Claim7.holds_tied_plain_at .later [] [.data, .data, .data, .sentinel, .sentinel] true (true, "f38cc323f351a03c786379bb756beb196006c481bc7626aca39af3d2d973da7e") true
    proved (fun _ h => by cases h) (by kernel_rfl) (fun _ h => by cases h) taintMoreUpto_row_tie rfl ⟨rfl, rfl⟩ (by kernel_rfl) rfl
    (fun f fn hf hfn => by
      obtain rfl : f = 6 := Option.some.inj ((show Tryd.prog.funcNamed Rows.taintMoreUptoRow.func = some 6 by kernel_rfl).symm.trans hf) |>.symm
      obtain rfl : fn = Tryd.f6 := (Option.some.inj (Tryd.func6.symm.trans hfn)).symm
      exact ⟨by kernel_rfl, fun j t ht => by
        rw [Tryd.params6] at ht
        rcases j with _ | j
        · obtain rfl : t = 38 := by simpa using ht.symm
          exact (show Tryd.prog.wantsStandIn 38 = false by kernel_rfl)
        simp at ht⟩)
    (by kernel_rfl)
#print axioms card
end Go.Proofs.YthgdeoacplcceaaDoor.taintMore
namespace Go.Proofs.YthgdeoacplcceaaDoor
/-- The row, under a short name, for the claim. -/
theorem taintMore_holds : Rows.TaintMoreUptoCardSaid := taintMore.card
end Go.Proofs.YthgdeoacplcceaaDoor
