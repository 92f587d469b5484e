import Derived.Test.YtafncdmclhdkdaaDoorQSuffixNumbers
import Derived.Test.YtafncdmclhdkdaaDoorPAllx10
namespace Go.Proofs.YtafncdmclhdkdaaDoor.PAll.Pure
open Go.RowKit Go.Proofs.YtafncdmclhdkdaaDoorW.PrintWords
theorem SuffixPrints (a0 : Int) (g0 : (Lit.int IntKind.i64 a0).wf = true) : ∃ k, sutlerlaw02_SuffixPrints.f k a0 = some true := by
  refine Ev.get (g := fun k => sutlerlaw02_SuffixPrints.f k a0) ?_
  unfold sutlerlaw02_SuffixPrints.f
  refine Ev.bindNow (pcpu_eq a0) (Ev.bind (ev_rpcpu a0) (Ev.bind (ev_pbytes a0) (Ev.bind (ev_rpbytes a0) (Ev.bindNow (pmoney_eq a0) (Ev.bind (ev_rpmoney a0) (Ev.bind ev_live ?_))))))
  simp only [if_true, beq_self_eq_true]
  exact Ev.const _
end Go.Proofs.YtafncdmclhdkdaaDoor.PAll.Pure
