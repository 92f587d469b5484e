import Derived.Test.YtafncdmclhdkdaaDoorQSuffixNumbers
import Derived.Test.YtafncdmclhdkdaaDoorPAllx13
namespace Go.Proofs.YtafncdmclhdkdaaDoor.PAll.Pure
open Go.RowKit Go.Proofs.YtafncdmclhdkdaaDoorW.PrintWords
theorem shr_at {sh p : Int} (h : (2 : Int) ^ min sh.toNat IntKind.i64.bits = p) (n : Int) : shr .i64 n sh = n / p := by
  unfold shr
  rw [h]
theorem ev_scale_step {u : Nat} (hu : u ≤ 1125899906842) (k : Nat) (hk : k < 5) (sh : Int) (h0 : 0 ≤ sh) (hsh : IntKind.u64.wrap (wrap64 (10 * (k : Int))) = sh) (hp : (2 : Int) ^ min sh.toNat IntKind.i64.bits = ((powP k : Nat) : Int)) (m : Nat) (hm : m = k + 1)
    (hR : Ev (fun j => sutlerlaw02_SuffixScale.l0 j (u : Int) (bs (D u)) ENDS (m : Int)) true) : Ev (fun j => sutlerlaw02_SuffixScale.l0 j (u : Int) (bs (D u)) ENDS (k : Int)) true := by
  subst hm
  refine Ev.succ ?_
  have c1 : (k : Int) < (ENDS.length : Int) := by show (k : Int) < 5; omega
  simp only [sutlerlaw02_SuffixScale.l0, if_pos c1, if_pos (show (0 : Int) ≤ (k : Int) by omega), ends_at k hk, if_pos (size_ok (D_short (show u < 1000000000000000000 by omega)) (sufP_len k)), bs_add, hsh, if_pos h0, shl_at hp, shr_at hp]
  have hlen : (D u ++ sufP k).length ≤ TOP := by
    have h1 := D_len (n := u) (by omega)
    have h2 := sufP_len k
    unfold TOP
    rw [List.length_append]
    omega
  refine Ev.bind (ev_bytes_at _ _ hlen (bytes_of (by omega) k hk)) ?_
  have w1 : wrap64 ((k : Int) + 1) = ((k + 1 : Nat) : Int) := w_succ (by omega)
  unfold timesV
  by_cases h : (u : Int) > 1125899906842624 / ((powP k : Nat) : Int)
  · simp only [if_pos h, if_neg (show ¬ (u : Int) ≤ 1125899906842624 / ((powP k : Nat) : Int) by omega), if_true, w1]
    exact hR
  · simp only [if_neg h, if_pos (show (u : Int) ≤ 1125899906842624 / ((powP k : Nat) : Int) by omega), if_true, w1]
    exact hR
theorem ev_scale_l0 {u : Nat} (hu : u ≤ 1125899906842) : Ev (fun j => sutlerlaw02_SuffixScale.l0 j (u : Int) (bs (D u)) ENDS ((0 : Nat) : Int)) true := by
  refine ev_scale_step hu 0 (by decide) 0 (by decide) (by kernel_rfl) (by kernel_rfl) 1 rfl ?_
  refine ev_scale_step hu 1 (by decide) 10 (by decide) (by kernel_rfl) (by kernel_rfl) 2 rfl ?_
  refine ev_scale_step hu 2 (by decide) 20 (by decide) (by kernel_rfl) (by kernel_rfl) 3 rfl ?_
  refine ev_scale_step hu 3 (by decide) 30 (by decide) (by kernel_rfl) (by kernel_rfl) 4 rfl ?_
  refine ev_scale_step hu 4 (by decide) 40 (by decide) (by kernel_rfl) (by kernel_rfl) 5 rfl ?_
  refine Ev.succ ?_
  have c1 : ¬ ((5 : Nat) : Int) < (ENDS.length : Int) := by decide
  simp only [sutlerlaw02_SuffixScale.l0, if_neg c1]
  exact Ev.bind ev_live (Ev.const _)
theorem ev_scale_live (n : Int) (s : ByteArray) : Ev (fun k => sutlerlaw02_SuffixScale.j0 k n s true) true := by
  refine Ev.succ ?_
  simp only [sutlerlaw02_SuffixScale.j0, if_true]
  exact Ev.bind ev_live (Ev.const _)
theorem SuffixScale (a0 : Int) (g0 : (Lit.int .i64 a0).wf = true) : ∃ k, sutlerlaw02_SuffixScale.f k a0 = some true := by
  refine Ev.get (g := fun k => sutlerlaw02_SuffixScale.f k a0) ?_
  unfold sutlerlaw02_SuffixScale.f
  refine Ev.bindNow (pcpu_eq a0) ?_
  simp only [prV_err]
  rcases chk_cases a0 with ⟨e, m, rfl, hm⟩ | ⟨e, h⟩ | ⟨e, h⟩
  · simp only [if_neg (show ¬ (m : Int) < 0 by omega), if_neg (show ¬ (m : Int) > 1125899906842624 by omega), e, if_true, prV_nat hm]
    have e1 : Int.tmod (m : Int) 1000 = ((m % 1000 : Nat) : Int) := rfl
    have e2 : Int.tdiv (m : Int) 1000 = ((m / 1000 : Nat) : Int) := rfl
    by_cases h : m % 1000 = 0
    · have h1 : (Int.tmod (m : Int) 1000 != 0) = false := by rw [e1, h]; rfl
      rw [h1]
      refine Ev.succ ?_
      have hc : cpuP m = D (m / 1000) := if_pos h
      have hsh := D_len (n := m / 1000) (by omega)
      simp only [sutlerlaw02_SuffixScale.j0, Bool.false_eq_true, if_false, hc, if_pos (size_ok1 (x := D (m / 1000)) (by omega)), e2, w_nat (show m / 1000 ≤ 9223372036854775807 by omega), bs_add]
      have hp : cpuV (D (m / 1000) ++ [109]) = (((m / 1000 : Nat) : Int), 0) := by
        unfold cpuV
        rw [cutL_append, D_read (by omega), if_pos rfl, if_pos rfl]
        have := times_fit (m := m / 1000) (p := 1) (by decide) (by omega)
        rw [Nat.mul_one] at this
        exact this
      refine Ev.bindNow (ev_cpu_at _ _ (by rw [List.length_append, List.length_singleton]; unfold TOP; omega) hp) ?_
      simp only [if_true, bne_self_eq_false]
      refine Ev.succ ?_
      simp only [sutlerlaw02_SuffixScale.j1, Bool.false_eq_true, if_false]
      exact ev_scale_l0 (u := m / 1000) (by omega)
    · have h1 : (Int.tmod (m : Int) 1000 != 0) = true := by
        rw [e1]
        exact bne_iff_ne.2 (by omega)
      rw [h1]
      exact ev_scale_live _ _
  · simp only [if_pos h]
    exact ev_scale_live _ _
  · simp only [if_neg (show ¬ a0 < 0 by omega), if_pos h]
    exact ev_scale_live _ _
end Go.Proofs.YtafncdmclhdkdaaDoor.PAll.Pure
