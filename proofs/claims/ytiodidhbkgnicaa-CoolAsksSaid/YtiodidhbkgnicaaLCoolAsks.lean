/- The law CoolAsks of the given program answers true at every input, and what came in reads as it did. No conditions. -/
-- written by a program of this session: the row of CoolAsks
import Derived.Test.YtiodidhbkgnicaaRows
import Derived.Test.YtiodidhbkgnicaaEOpens
import Derived.Test.YtiodidhbkgnicaaPAllx20
import Derived.Test.YtiodidhbkgnicaaQCoolAsks
import Derived.WalkKit
import Derived.ProofKit
import Derived.OpenShut
import Derived.ShutString
import Derived.ChangeOld
import Derived.Below
import Derived.SizedLaws
namespace Go.Proofs.Ytiodidhbkgnicaa.coolAsks
open Go.ChangeShapes Go.WideShapes Go.ChangeAt Go.RowKit Go.Proofs.Ytiodidhbkgnicaa.PAll Go.Proofs.YtiodidhbkgnicaaW.PrintWords
open Go.ChangeMaps (open_string shut_string)
set_option linter.unusedVariables false
theorem own : ownKnob Try.prog.godebug = none := by kernel_rfl
theorem laidOut : laidOutB Try.prog = true := by kernel_rfl
set_option maxRecDepth 100000 in
set_option maxHeartbeats 1000000 in
theorem lifted (os : Os) (started : os.Started) (H : Type) (enc : TypeId × Value → H) :
    ReturnsInHanded {} Try.checked os 5 .any (Rows.coolAsksSpec.pre6 enc Try.prog Try.f5 Rows.coolAsksRow.domain false) (Rows.coolAsksSpec.post enc Try.prog Try.f5 false true false false) := by
  refine returnsInHanded_of_change_sized (C := Try.checked) own started (by kernel_rfl) Try.func5
    (ChangeSpec.witness6 (enc := enc) (C := Try.checked) false ⟨#[], #[.slice none 0 0, .slice none 0 0, .int .i64 0], []⟩ 8 (by kernel_rfl) (by kernel_rfl) (by kernel_rfl) (by kernel_rfl)) ?_
  intro W base args ds gs before hval0 hW hcnd hsz0 _
  have hsz : (DataW.weightsEach Try.prog (Try.f5.params.toList ++ Rows.coolAsksSpec.plain.varTypes Try.prog) (ds ++ gs)).all (· ≤ reachBytes) = true := hsz0
  have hval : ∀ (j : Nat) t v, Try.f5.params[j]? = some t → args[j]? = some v → Value.okWide Try.prog W .any base t v := hval0
  have hW' := hW
  obtain ⟨p, q, hA0, hV, rfl, hfz, hnd⟩ := hW
  have hA : DataW.TrodAll enc Try.prog W 0 (fun _ => true) true Try.f5.params.toList args.toList ds p := hA0
  rw [Try.params5] at hA hval hsz
  obtain ⟨v0, vs0, d0, ds0, p0, q0, hargs, rfl, rfl, h0, r0⟩ := trodAll_cons hA
  obtain ⟨v1, vs1, d1, ds1, p1, q1, rfl, rfl, rfl, h1, r1⟩ := trodAll_cons r0
  obtain ⟨v2, vs2, d2, ds2, p2, q2, rfl, rfl, rfl, h2, r2⟩ := trodAll_cons r1
  obtain ⟨rfl, rfl, rfl⟩ := trodAll_nil r2
  obtain rfl : args = #[v0, v1, v2] := by cases args; simp_all
  obtain ⟨rfl, rfl⟩ := trodVars_none hV
  have lt0 : ∀ x ∈ p0, x.block < W.heap.size := by obtain ⟨m, hm⟩ := h0; exact DataW.trod_lt m _ _ _ hm
  obtain ⟨A0, len0, cap0, rfl⟩ := okWide_slice Try.underlying29 (hval 0 29 v0 rfl rfl)
  obtain ⟨x0, ⟨B0, c0, e0, hc0, hr0⟩, g0⟩ := Row.top (Row.opens_slice (B := 56) Try.underlying29 (by kernel_rfl) (by kernel_rfl) opens25) h0 hsz (j := 0) rfl rfl
  obtain ⟨rfl, rfl, rfl⟩ : A0 = B0 ∧ len0 = x0.length ∧ cap0 = c0 := by simpa [Value.cells] using e0
  have lt1 : ∀ x ∈ p1, x.block < W.heap.size := by obtain ⟨m, hm⟩ := h1; exact DataW.trod_lt m _ _ _ hm
  obtain ⟨A1, len1, cap1, rfl⟩ := okWide_slice Try.underlying35 (hval 1 35 v1 rfl rfl)
  obtain ⟨x1, ⟨B1, c1, e1, hc1, hr1⟩, g1⟩ := Row.top (Row.opens_slice (B := 48) Try.underlying35 (by kernel_rfl) (by kernel_rfl) opens23) h1 hsz (j := 1) rfl rfl
  obtain ⟨rfl, rfl, rfl⟩ : A1 = B1 ∧ len1 = x1.length ∧ cap1 = c1 := by simpa [Value.cells] using e1
  obtain ⟨a2, rfl, rfl, rfl, g2⟩ := open_int Try.underlying2 (hval 2 2 v2 rfl rfl) h2
  clear hA0 hval0 hsz0 hsz
  obtain ⟨K, hK⟩ := Pure.CoolAsks x0 x1 a2 g0 g1 g2
  refine (sutlerlaw07_CoolAsks.calls (k := K) (r := true) (w := W) (hr0 := hr0) (hc0 := hc0) (hr1 := hr1) (hc1 := hc1) (h := hK)).mono fun e W' ⟨he, bel⟩ => ?_
  subst he
  exact ⟨_, rfl, _, _, _, [], _, [], hW', trodAll_mk1 (shut_bool Try.underlying4 _), (trodAll_cons_mk (Below.trod laidOut (by kernel_rfl) (of_decide_eq_true (by kernel_rfl)) h0 bel lt0) (trodAll_cons_mk (Below.trod laidOut (by kernel_rfl) (of_decide_eq_true (by kernel_rfl)) h1 bel lt1) (trodAll_cons_mk (shut_int Try.underlying2 g2) trodAll_mk0))), rfl, bel.frame _, fun h => by cases h⟩
theorem over : Rows.coolAsksRow.holds Try.pinned (OpenSpec.ofChange Rows.coolAsksSpec) :=
  OpenClaim.holds_of_wide 5 Try.f5 rfl rfl rfl rfl rfl rfl rfl ⟨rfl, rfl, rfl, rfl, rfl⟩ rfl rfl rfl rfl rfl (by kernel_rfl) Try.func5 (by kernel_rfl)
    (of_decide_eq_true (by kernel_rfl)) (by unfold Func.isWrapper; first | (rw [if_pos (by decide +kernel)]; kernel_rfl) | (rw [if_neg (by decide +kernel)]; exact ⟨rfl, rfl⟩))
    (fun os started H enc _ => lifted os started H enc)
theorem proved : Rows.CoolAsksSaid := over
#print axioms proved
end Go.Proofs.Ytiodidhbkgnicaa.coolAsks
namespace Go.Proofs.Ytiodidhbkgnicaa
/-- The row, under a short name, for the claim. -/
theorem coolAsks_holds : Rows.CoolAsksSaid := coolAsks.proved
end Go.Proofs.Ytiodidhbkgnicaa
