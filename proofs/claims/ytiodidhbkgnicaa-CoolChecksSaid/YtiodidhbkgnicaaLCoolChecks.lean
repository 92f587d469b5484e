/- The law CoolChecks of the given program answers true at every input, and what came in reads as it did. No conditions. -/
-- written by a program of this session: the row of CoolChecks
import Derived.Test.YtiodidhbkgnicaaRows
import Derived.Test.YtiodidhbkgnicaaEOpens
import Derived.Test.YtiodidhbkgnicaaPAllx18
import Derived.Test.YtiodidhbkgnicaaQCoolChecks
import Derived.WalkKit
import Derived.ProofKit
import Derived.OpenShut
import Derived.ShutString
import Derived.ChangeOld
import Derived.Below
import Derived.SizedLaws
namespace Go.Proofs.Ytiodidhbkgnicaa.coolChecks
open Go.ChangeShapes Go.WideShapes Go.ChangeAt Go.RowKit Go.Proofs.Ytiodidhbkgnicaa.PAll Go.Proofs.YtiodidhbkgnicaaW.PrintWords
open Go.ChangeMaps (open_string shut_string)
set_option linter.unusedVariables false
theorem own : ownKnob Try.prog.godebug = none := by kernel_rfl
theorem laidOut : laidOutB Try.prog = true := by kernel_rfl
set_option maxRecDepth 100000 in
set_option maxHeartbeats 1000000 in
theorem lifted (os : Os) (started : os.Started) (H : Type) (enc : TypeId × Value → H) :
    ReturnsInHanded {} Try.checked os 4 .any (Rows.coolChecksSpec.pre6 enc Try.prog Try.f4 Rows.coolChecksRow.domain false) (Rows.coolChecksSpec.post enc Try.prog Try.f4 false true false false) := by
  refine returnsInHanded_of_change_sized (C := Try.checked) own started (by kernel_rfl) Try.func4
    (ChangeSpec.witness6 (enc := enc) (C := Try.checked) false ⟨#[], #[.slice none 0 0, .agg #[.string ByteArray.empty, .string ByteArray.empty, .string ByteArray.empty, .int .i64 0]], []⟩ 8 (by kernel_rfl) (by kernel_rfl) (by kernel_rfl) (by kernel_rfl)) ?_
  intro W base args ds gs before hval0 hW hcnd hsz0 _
  have hsz : (DataW.weightsEach Try.prog (Try.f4.params.toList ++ Rows.coolChecksSpec.plain.varTypes Try.prog) (ds ++ gs)).all (· ≤ reachBytes) = true := hsz0
  have hval : ∀ (j : Nat) t v, Try.f4.params[j]? = some t → args[j]? = some v → Value.okWide Try.prog W .any base t v := hval0
  have hW' := hW
  obtain ⟨p, q, hA0, hV, rfl, hfz, hnd⟩ := hW
  have hA : DataW.TrodAll enc Try.prog W 0 (fun _ => true) true Try.f4.params.toList args.toList ds p := hA0
  rw [Try.params4] at hA hval hsz
  obtain ⟨v0, vs0, d0, ds0, p0, q0, hargs, rfl, rfl, h0, r0⟩ := trodAll_cons hA
  obtain ⟨v1, vs1, d1, ds1, p1, q1, rfl, rfl, rfl, h1, r1⟩ := trodAll_cons r0
  obtain ⟨rfl, rfl, rfl⟩ := trodAll_nil r1
  obtain rfl : args = #[v0, v1] := by cases args; simp_all
  obtain ⟨rfl, rfl⟩ := trodVars_none hV
  have lt0 : ∀ x ∈ p0, x.block < W.heap.size := by obtain ⟨m, hm⟩ := h0; exact DataW.trod_lt m _ _ _ hm
  obtain ⟨A0, len0, cap0, rfl⟩ := okWide_slice Try.underlying29 (hval 0 29 v0 rfl rfl)
  obtain ⟨x0, ⟨B0, c0, e0, hc0, hr0⟩, g0⟩ := Row.top (Row.opens_slice (B := 56) Try.underlying29 (by kernel_rfl) (by kernel_rfl) opens25) h0 hsz (j := 0) rfl rfl
  obtain ⟨rfl, rfl, rfl⟩ : A0 = B0 ∧ len0 = x0.length ∧ cap0 = c0 := by simpa [Value.cells] using e0
  have lt1 : ∀ x ∈ p1, x.block < W.heap.size := by obtain ⟨m, hm⟩ := h1; exact DataW.trod_lt m _ _ _ hm
  obtain ⟨cs1, rfl, _⟩ := okWide_struct Try.underlying25 (hval 1 25 v1 rfl rfl)
  obtain ⟨x1, K1, g1⟩ := Row.top opens25 h1 hsz (j := 1) rfl rfl
  have EK1 := k25_open K1
  obtain rfl : cs1 = #[.string x1.f0.f0, .string x1.f0.f1, .string x1.f0.f2, .int .i64 x1.f1] := by
    have E : cs1.toList = [.string x1.f0.f0, .string x1.f0.f1, .string x1.f0.f2, .int .i64 x1.f1] := by
      have E0 : cs1.toList = _ := EK1
      rw [E0]
    exact Array.ext' E
  clear hA0 hval0 hsz0 hsz
  obtain ⟨K, hK⟩ := Pure.CoolChecks x0 x1 g0 g1
  refine (sutlerlaw07_CoolChecks.calls (k := K) (r := true) (w := W) (hr0 := hr0) (hc0 := hc0) (h := hK)).mono fun e W' ⟨he, bel⟩ => ?_
  subst he
  exact ⟨_, rfl, _, _, _, [], _, [], hW', trodAll_mk1 (shut_bool Try.underlying4 _), (trodAll_cons_mk (Below.trod laidOut (by kernel_rfl) (of_decide_eq_true (by kernel_rfl)) h0 bel lt0) (trodAll_cons_mk (Below.trod laidOut (by kernel_rfl) (of_decide_eq_true (by kernel_rfl)) h1 bel lt1) trodAll_mk0)), rfl, bel.frame _, fun h => by cases h⟩
theorem over : Rows.coolChecksRow.holds Try.pinned (OpenSpec.ofChange Rows.coolChecksSpec) :=
  OpenClaim.holds_of_wide 4 Try.f4 rfl rfl rfl rfl rfl rfl rfl ⟨rfl, rfl, rfl, rfl, rfl⟩ rfl rfl rfl rfl rfl (by kernel_rfl) Try.func4 (by kernel_rfl)
    (of_decide_eq_true (by kernel_rfl)) (by unfold Func.isWrapper; first | (rw [if_pos (by decide +kernel)]; kernel_rfl) | (rw [if_neg (by decide +kernel)]; exact ⟨rfl, rfl⟩))
    (fun os started H enc _ => lifted os started H enc)
theorem proved : Rows.CoolChecksSaid := over
#print axioms proved
end Go.Proofs.Ytiodidhbkgnicaa.coolChecks
namespace Go.Proofs.Ytiodidhbkgnicaa
/-- The row, under a short name, for the claim. -/
theorem coolChecks_holds : Rows.CoolChecksSaid := coolChecks.proved
end Go.Proofs.Ytiodidhbkgnicaa
