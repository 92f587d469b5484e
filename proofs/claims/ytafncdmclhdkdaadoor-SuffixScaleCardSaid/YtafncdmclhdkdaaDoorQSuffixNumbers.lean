import Derived.Test.YtafncdmclhdkdaaDoorSMoney
import Derived.Test.YtafncdmclhdkdaaDoorPAllx3
import Derived.Test.YtafncdmclhdkdaaDoorPAllx4
namespace Go.Proofs.YtafncdmclhdkdaaDoor.PAll.Pure
open Go.RowKit Go.Proofs.YtafncdmclhdkdaaDoorW.PrintWords
theorem ev_cpu_at (l : List UInt8) (r : Int × Int) (hl : l.length ≤ TOP) (h : cpuV l = r) : suffix_ParseCPU.f (bs l) = some r := h ▸ cpu_eq l hl
theorem ev_bytes_at (l : List UInt8) (r : Int × Int) (hl : l.length ≤ TOP) (h : bytesV l = r) : Ev (fun k => suffix_ParseBytes.f k (bs l)) r := h ▸ ev_bytes l hl
theorem ev_money_at (l : List UInt8) (r : Int × Int) (hl : l.length ≤ TOP) (h : moneyV l = r) : suffix_ParseMoney.f (bs l) = some r := h ▸ money_eq l hl
theorem ev_live : Ev (fun k => sutlerlaw02_live.f k) true := by
  unfold sutlerlaw02_live.f
  refine Ev.bindNow (ev_cpu_at [49, 53, 48, 48, 109] (1500, 0) (by decide) (by kernel_rfl)) ?_
  refine Ev.bind (ev_bytes_at [52, 71, 105] (4294967296, 0) (by decide) (by kernel_rfl)) ?_
  refine Ev.bindNow (ev_money_at [48, 46, 48, 48, 48, 48, 52, 48] (40, 0) (by decide) (by kernel_rfl)) ?_
  refine Ev.bindNow ((pcpu_eq 2000).trans (show _ = some (bs [50], (0 : Int)) by kernel_rfl)) ?_
  refine Ev.bind ((ev_pbytes 1049600).to (v' := (bs [49, 48, 50, 53, 75, 105], (0 : Int))) (by kernel_rfl)) ?_
  refine Ev.bindNow ((pmoney_eq 1500000).trans (show _ = some (bs [49, 46, 53], (0 : Int)) by kernel_rfl)) ?_
  simp only [if_true, bs_list, beq_self_eq_true]
  exact Ev.const _
theorem SuffixNumbers : ∃ k, sutlerlaw02_SuffixNumbers.f k = some true := by
  refine Ev.get (g := fun k => sutlerlaw02_SuffixNumbers.f k) ?_
  unfold sutlerlaw02_SuffixNumbers.f
  refine Ev.bindNow (ev_cpu_at [48, 50] ((cpuV [48, 50]).1, 20) (by decide) (by kernel_rfl)) ?_
  refine Ev.bind (ev_bytes_at [49, 48, 50, 53, 84, 105] (0, 10) (by decide) (by kernel_rfl)) ?_
  refine Ev.bind (ev_bytes_at [49, 48, 50, 52, 84, 105] (1125899906842624, 0) (by decide) (by kernel_rfl)) ?_
  refine Ev.bindNow (ev_money_at [49, 46, 48, 48, 48, 48, 48, 48, 48] (0, 20) (by decide) (by kernel_rfl)) ?_
  refine Ev.bindNow ((pmoney_eq (-1)).trans (show _ = some (bs [], (11 : Int)) by kernel_rfl)) ?_
  refine Ev.bind ev_live ?_
  simp only [if_true, beq_self_eq_true]
  exact Ev.const _
end Go.Proofs.YtafncdmclhdkdaaDoor.PAll.Pure
