/- The law CoolNext of the given program answers true at every input, and what came in reads as it did. No conditions. -/
-- written by a program of this session: the row of CoolNext
import Derived.Test.YtiodidhbkgnicaaRows
import Derived.Test.YtiodidhbkgnicaaEOpens
import Derived.Test.YtiodidhbkgnicaaPAllx22
import Derived.Test.YtiodidhbkgnicaaQCoolNext
import Derived.WalkKit
import Derived.ProofKit
import Derived.OpenShut
import Derived.ShutString
import Derived.ChangeOld
import Derived.Below
import Derived.SizedLaws
namespace Go.Proofs.Ytiodidhbkgnicaa.coolNext
open Go.ChangeShapes Go.WideShapes Go.ChangeAt Go.RowKit Go.Proofs.Ytiodidhbkgnicaa.PAll Go.Proofs.YtiodidhbkgnicaaW.PrintWords
open Go.ChangeMaps (open_string shut_string)
set_option linter.unusedVariables false
theorem own : ownKnob Try.prog.godebug = none := by kernel_rfl
theorem laidOut : laidOutB Try.prog = true := by kernel_rfl
set_option maxRecDepth 100000 in
set_option maxHeartbeats 1000000 in
theorem lifted (os : Os) (started : os.Started) (H : Type) (enc : TypeId × Value → H) :
    ReturnsInHanded {} Try.checked os 7 .any (Rows.coolNextSpec.pre6 enc Try.prog Try.f7 Rows.coolNextRow.domain false) (Rows.coolNextSpec.post enc Try.prog Try.f7 false true false false) := by
  refine returnsInHanded_of_change_sized (C := Try.checked) own started (by kernel_rfl) Try.func7
    (ChangeSpec.witness6 (enc := enc) (C := Try.checked) false ⟨#[], #[.agg #[.slice none 0 0, .string ByteArray.empty, .string ByteArray.empty, .string ByteArray.empty, .int .i64 0, .string ByteArray.empty, .string ByteArray.empty, .string ByteArray.empty, .int .i64 0, .int .i64 0]], []⟩ 8 (by kernel_rfl) (by kernel_rfl) (by kernel_rfl) (by kernel_rfl)) ?_
  intro W base args ds gs before hval0 hW hcnd hsz0 _
  have hsz : (DataW.weightsEach Try.prog (Try.f7.params.toList ++ Rows.coolNextSpec.plain.varTypes Try.prog) (ds ++ gs)).all (· ≤ reachBytes) = true := hsz0
  have hval : ∀ (j : Nat) t v, Try.f7.params[j]? = some t → args[j]? = some v → Value.okWide Try.prog W .any base t v := hval0
  have hW' := hW
  obtain ⟨p, q, hA0, hV, rfl, hfz, hnd⟩ := hW
  have hA : DataW.TrodAll enc Try.prog W 0 (fun _ => true) true Try.f7.params.toList args.toList ds p := hA0
  rw [Try.params7] at hA hval hsz
  obtain ⟨v0, vs0, d0, ds0, p0, q0, hargs, rfl, rfl, h0, r0⟩ := trodAll_cons hA
  obtain ⟨rfl, rfl, rfl⟩ := trodAll_nil r0
  obtain rfl : args = #[v0] := by cases args; simp_all
  obtain ⟨rfl, rfl⟩ := trodVars_none hV
  have lt0 : ∀ x ∈ p0, x.block < W.heap.size := by obtain ⟨m, hm⟩ := h0; exact DataW.trod_lt m _ _ _ hm
  obtain ⟨cs0, rfl, _⟩ := okWide_struct Try.underlying43 (hval 0 43 v0 rfl rfl)
  obtain ⟨x0, K0, g0⟩ := Row.top opens43 h0 hsz (j := 0) rfl rfl
  obtain ⟨CK0_0, CK0_1, EK0, K0_0, K0_1⟩ := K0
  obtain ⟨B0_0, c0_0, EK0_0, hc0_0, hr0_0⟩ := K0_0
  obtain ⟨CK0_1_0, CK0_1_1, EK0_1, K0_1_0, K0_1_1⟩ := K0_1
  have EK0_1_0 := k25_open K0_1_0
  obtain ⟨CK0_1_1_0, CK0_1_1_1, EK0_1_1, K0_1_1_0, K0_1_1_1⟩ := K0_1_1
  have EK0_1_1_0 := k23_open K0_1_1_0
  obtain ⟨CK0_1_1_1_0, CK0_1_1_1_1, EK0_1_1_1, K0_1_1_1_0, K0_1_1_1_1⟩ := K0_1_1_1
  have EK0_1_1_1_0 : _ = [Value.int .i64 x0.2.2.2.1] := K0_1_1_1_0
  have EK0_1_1_1_1 : _ = [Value.int .i64 x0.2.2.2.2] := K0_1_1_1_1
  obtain rfl : cs0 = #[.slice B0_0 x0.1.length c0_0, .string x0.2.1.f0.f0, .string x0.2.1.f0.f1, .string x0.2.1.f0.f2, .int .i64 x0.2.1.f1, .string x0.2.2.1.f0, .string x0.2.2.1.f1, .string x0.2.2.1.f2, .int .i64 x0.2.2.2.1, .int .i64 x0.2.2.2.2] := by
    have E : cs0.toList = [.slice B0_0 x0.1.length c0_0, .string x0.2.1.f0.f0, .string x0.2.1.f0.f1, .string x0.2.1.f0.f2, .int .i64 x0.2.1.f1, .string x0.2.2.1.f0, .string x0.2.2.1.f1, .string x0.2.2.1.f2, .int .i64 x0.2.2.2.1, .int .i64 x0.2.2.2.2] := by
      have E0 : cs0.toList = _ := EK0
      rw [E0]
      rw [EK0_0, EK0_1, EK0_1_0, EK0_1_1, EK0_1_1_0, EK0_1_1_1, EK0_1_1_1_0, EK0_1_1_1_1]
      rfl
    exact Array.ext' E
  clear hA0 hval0 hsz0 hsz
  obtain ⟨K, hK⟩ := Pure.CoolNext x0 g0
  refine (sutlerlaw07_CoolNext.calls (k := K) (r := true) (w := W) (hr0_0 := hr0_0) (hc0_0 := hc0_0) (h := hK)).mono fun e W' ⟨he, bel⟩ => ?_
  subst he
  exact ⟨_, rfl, _, _, _, [], _, [], hW', trodAll_mk1 (shut_bool Try.underlying4 _), (trodAll_cons_mk (Below.trod laidOut (by kernel_rfl) (of_decide_eq_true (by kernel_rfl)) h0 bel lt0) trodAll_mk0), rfl, bel.frame _, fun h => by cases h⟩
theorem over : Rows.coolNextRow.holds Try.pinned (OpenSpec.ofChange Rows.coolNextSpec) :=
  OpenClaim.holds_of_wide 7 Try.f7 rfl rfl rfl rfl rfl rfl rfl ⟨rfl, rfl, rfl, rfl, rfl⟩ rfl rfl rfl rfl rfl (by kernel_rfl) Try.func7 (by kernel_rfl)
    (of_decide_eq_true (by kernel_rfl)) (by unfold Func.isWrapper; first | (rw [if_pos (by decide +kernel)]; kernel_rfl) | (rw [if_neg (by decide +kernel)]; exact ⟨rfl, rfl⟩))
    (fun os started H enc _ => lifted os started H enc)
theorem proved : Rows.CoolNextSaid := over
#print axioms proved
end Go.Proofs.Ytiodidhbkgnicaa.coolNext
namespace Go.Proofs.Ytiodidhbkgnicaa
/-- The row, under a short name, for the claim. -/
theorem coolNext_holds : Rows.CoolNextSaid := coolNext.proved
end Go.Proofs.Ytiodidhbkgnicaa
