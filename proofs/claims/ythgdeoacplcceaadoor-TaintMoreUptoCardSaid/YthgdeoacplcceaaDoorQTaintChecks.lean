import Derived.Test.YthgdeoacplcceaaDoorSTaint
import Derived.Test.YthgdeoacplcceaaDoorEOpens
import Derived.Test.YthgdeoacplcceaaDoorPAllx11
namespace Go.Proofs.YthgdeoacplcceaaDoor.PAll.Pure
open Go.RowKit Go.Proofs.YthgdeoacplcceaaDoorW.PrintWords
theorem ev_live : Ev (fun k => sutlerlaw05_live.f k) true := Ev.of_mono sutlerlaw05_live.mono 60 (by kernel_rfl)
theorem small_l {l : List S26} (g : ∀ y ∈ l, good26 y) : ∀ t ∈ l, SmallL t := fun t ht => by
  obtain ⟨a, b⟩ := g t ht
  exact ⟨by omega, by omega⟩
theorem small_t {l : List S28} (g : ∀ y ∈ l, good28 y) : ∀ t ∈ l, SmallT t := fun t ht => by
  obtain ⟨a, b, _⟩ := g t ht
  exact ⟨by omega, by omega⟩
theorem TaintChecks (x0 : (List S26)) (x1 : (List S28)) (g0 : (x0.length * 32 ≤ 140737488351232 ∧ ∀ y_ ∈ x0, good26 y_)) (g1 : (x1.length * 40 ≤ 140737488351232 ∧ ∀ y_ ∈ x1, good28 y_)) : ∃ k, sutlerlaw05_TaintChecks.f k x0 x1 = some true := by
  have sL := small_l g0.2
  have sT := small_t g1.2
  refine Ev.get (g := fun k => sutlerlaw05_TaintChecks.f k x0 x1) ?_
  unfold sutlerlaw05_TaintChecks.f
  refine Ev.bind (ev_rCheck sL) (Ev.bind (ev_rCheckTols sT) (Ev.bind ev_live ?_))
  simp only [if_true]
  refine Ev.bindNow (check_now sL) ?_
  simp only [if_true]
  exact Ev.bind (ev_CheckTols sT) ((Ev.const _).to (by simp))
end Go.Proofs.YthgdeoacplcceaaDoor.PAll.Pure
