import Derived.Test.YtafncdmclhdkdaaDoorQSuffixNumbers
import Derived.Test.YtafncdmclhdkdaaDoorPAllx7
namespace Go.Proofs.YtafncdmclhdkdaaDoor.PAll.Pure
open Go.RowKit Go.Proofs.YtafncdmclhdkdaaDoorW.PrintWords
theorem as_bs (s : ByteArray) : ∃ l : List UInt8, s = bs l := ⟨s.data.toList, rfl⟩
theorem SuffixParses (a0 : ByteArray) (g0 : a0.size ≤ 140737488351232) : ∃ k, sutlerlaw02_SuffixParses.f k a0 = some true := by
  obtain ⟨l, rfl⟩ := as_bs a0
  have hl : l.length ≤ TOP := by rw [bs_size] at g0; unfold TOP; omega
  refine Ev.get (g := fun k => sutlerlaw02_SuffixParses.f k (bs l)) ?_
  unfold sutlerlaw02_SuffixParses.f
  refine Ev.bindNow (cpu_eq l hl) (Ev.bind (ev_refCPU l hl) (Ev.bind (ev_bytes l hl) (Ev.bind (ev_refBytes l hl) (Ev.bindNow (money_eq l hl) (Ev.bind (ev_refMoney l hl) (Ev.bind ev_live ?_))))))
  simp only [if_true, beq_self_eq_true]
  exact Ev.const _
end Go.Proofs.YtafncdmclhdkdaaDoor.PAll.Pure
