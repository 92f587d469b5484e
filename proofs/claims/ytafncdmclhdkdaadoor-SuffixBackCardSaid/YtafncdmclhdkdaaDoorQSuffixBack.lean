import Derived.Test.YtafncdmclhdkdaaDoorQSuffixParses
import Derived.Test.YtafncdmclhdkdaaDoorPAllx12
namespace Go.Proofs.YtafncdmclhdkdaaDoor.PAll.Pure
open Go.RowKit Go.Proofs.YtafncdmclhdkdaaDoorW.PrintWords
theorem cpuP_len {m : Nat} (hm : m ≤ 1125899906842624) : (cpuP m).length ≤ TOP := by
  unfold cpuP TOP
  split
  · have := D_len (n := m / 1000) (by omega); omega
  · have := D_len (n := m) (by omega)
    rw [List.length_append, List.length_singleton]
    omega
theorem pbL_len : ∀ f m k : Nat, m ≤ 1125899906842624 → (pbL f m k).length ≤ TOP
  | 0, m, k, hm => by
    have := D_len (n := m) (by omega)
    have := sufP_len k
    unfold pbL TOP
    rw [List.length_append]
    omega
  | f + 1, m, k, hm => by
    unfold pbL
    split
    · have := D_len (n := m) (by omega)
      have := sufP_len k
      unfold TOP
      rw [List.length_append]
      omega
    · exact pbL_len f (m / 1024) (k + 1) (by omega)
theorem moneyP_len {m : Nat} (hm : m ≤ 1125899906842624) : (moneyP m).length ≤ TOP := by
  have h1 := D_len (n := m / 1000000) (by omega)
  unfold moneyP TOP
  split
  · omega
  · have h2 := trim_len (sixP (m % 1000000))
    have h3 := six_len (r := m % 1000000) (Nat.mod_lt _ (by decide))
    rw [List.length_append, List.length_append, List.length_singleton]
    omega
theorem cpu_again {m : Nat} (hm : m ≤ 1125899906842624) : suffix_ParseCPU.f (bs (cpuP m)) = some ((m : Int), 0) := ev_cpu_at _ _ (cpuP_len hm) (cpu_back hm)
theorem bytes_again {m : Nat} (hm : m ≤ 1125899906842624) : Ev (fun k => suffix_ParseBytes.f k (bs (bytesP m))) ((m : Int), 0) := ev_bytes_at _ _ (pbL_len 4 m 0 hm) (bytes_back hm)
theorem money_again {m : Nat} (hm : m ≤ 1125899906842624) : suffix_ParseMoney.f (bs (moneyP m)) = some ((m : Int), 0) := ev_money_at _ _ (moneyP_len hm) (money_back hm)
/-- What a text is read as: an amount, or nought with an error. -/
def Good (r : Int × Int) : Prop := (r.2 = 0 ∧ ∃ m : Nat, r.1 = (m : Int) ∧ m ≤ 1125899906842624) ∨ (¬ r.2 = 0 ∧ r.1 = 0)
theorem good_bad {e : Int} (h : ¬ e = 0) : Good (0, e) := .inr ⟨h, rfl⟩
theorem good_times {n b : Int} (hn : 0 ≤ n) (hb : 0 < b) : Good (timesV n b) := by
  unfold timesV
  by_cases h : n > 1125899906842624 / b
  · rw [if_pos h]; exact good_bad (by decide)
  · rw [if_neg h]
    have h1 : n * b ≤ 1125899906842624 := (Int.le_ediv_iff_mul_le hb).1 (by omega)
    have h2 : 0 ≤ n * b := Int.mul_nonneg hn (by omega)
    have h3 : wrap64 (n * b) = n * b := by
      generalize n * b = q at h1 h2
      unfold wrap64
      omega
    refine .inl ⟨rfl, (n * b).toNat, ?_, ?_⟩
    · show wrap64 (n * b) = _
      rw [h3]
      omega
    · omega
theorem good_cpu (l : List UInt8) : Good (cpuV l) := by
  unfold cpuV
  split
  · rename_i h
    refine good_times (digits_bound _ h).1 ?_
    split <;> decide
  · exact good_bad (by decide)
theorem good_goB (d : List UInt8) {p : Int} (hp : 0 < p) : Good (goB d p) := by
  unfold goB
  split
  · rename_i h
    exact good_times (digits_bound _ h).1 hp
  · exact good_bad (by decide)
theorem good_pick {l e : List UInt8} {p : Int} {R : Int × Int} (hp : 0 < p) (hR : Good R) : Good (pickB l e p R) := by
  unfold pickB
  split
  · exact good_goB _ hp
  · exact hR
theorem good_bytes (l : List UInt8) : Good (bytesV l) := good_pick (by decide) (good_pick (by decide) (good_pick (by decide) (good_pick (by decide) (good_goB _ (by decide)))))
theorem good_total {n part : Int} (hn : 0 ≤ n) (hp : 0 ≤ part) : Good (totalV n part) := by
  unfold totalV
  split
  · exact good_bad (by decide)
  · split
    · exact good_bad (by decide)
    · refine .inl ⟨rfl, (n * 1000000 + part).toNat, ?_, ?_⟩
      · show n * 1000000 + part = _
        omega
      · omega
theorem good_money (l : List UInt8) : Good (moneyV l) := by
  unfold moneyV
  split
  · exact good_bad (by decide)
  · rename_i h
    have h2 : (digitsV (dotL l)).2 = true := by
      cases hd : (digitsV (dotL l)).2
      · exact absurd hd h
      · rfl
    have h0 := (digits_bound _ h2).1
    split
    · split
      · exact good_bad (by decide)
      · split
        · exact good_total h0 (by omega)
        · exact good_bad (by decide)
    · exact good_total h0 (by decide)
theorem again_cpu {r : Int × Int} (h : Good r) : sutlerlaw02_again_at_suffix_PrintCPU_suffix_ParseCPU.f r.1 r.2 = some true := by
  unfold sutlerlaw02_again_at_suffix_PrintCPU_suffix_ParseCPU.f
  rcases h with ⟨e, m, hm, hle⟩ | ⟨e, hm⟩
  · rw [if_pos e, hm, pcpu_eq, Option.bind_some, prV_nat hle, cpu_again hle, Option.bind_some, if_pos rfl, if_pos rfl, beq_self_eq_true]
  · rw [if_neg e, hm]
    rfl
theorem again_bytes {r : Int × Int} (h : Good r) : Ev (fun k => sutlerlaw02_again_at_suffix_PrintBytes_suffix_ParseBytes.f k r.1 r.2) true := by
  unfold sutlerlaw02_again_at_suffix_PrintBytes_suffix_ParseBytes.f
  rcases h with ⟨e, m, hm, hle⟩ | ⟨e, hm⟩
  · simp only [if_pos e, hm]
    refine Ev.bind (ev_pbytes _) ?_
    rw [prV_nat hle]
    refine Ev.bind (bytes_again hle) ?_
    simp only [if_true, beq_self_eq_true]
    exact Ev.const _
  · simp only [if_neg e, hm]
    exact Ev.const _
theorem again_money {r : Int × Int} (h : Good r) : sutlerlaw02_again_at_suffix_PrintMoney_suffix_ParseMoney.f r.1 r.2 = some true := by
  unfold sutlerlaw02_again_at_suffix_PrintMoney_suffix_ParseMoney.f
  rcases h with ⟨e, m, hm, hle⟩ | ⟨e, hm⟩
  · rw [if_pos e, hm, pmoney_eq, Option.bind_some, prV_nat hle, money_again hle, Option.bind_some, if_pos rfl, if_pos rfl, beq_self_eq_true]
  · rw [if_neg e, hm]
    rfl
theorem ev_back_j2 (l : List UInt8) (hl : l.length ≤ TOP) : Ev (fun k => sutlerlaw02_SuffixBack.j2 k (bs l)) true := by
  refine Ev.succ ?_
  simp only [sutlerlaw02_SuffixBack.j2]
  refine Ev.bindNow (cpu_eq l hl) (Ev.bind (ev_bytes l hl) (Ev.bindNow (money_eq l hl) (Ev.bind ev_live ?_)))
  simp only [if_true]
  refine Ev.bindNow (again_cpu (good_cpu l)) ?_
  simp only [if_true]
  refine Ev.bind (again_bytes (good_bytes l)) ?_
  simp only [if_true]
  exact Ev.bindNow (again_money (good_money l)) (Ev.const _)
theorem same_text {f : Nat → List UInt8} {g : List UInt8 → Int × Int} (hb : ∀ m : Nat, m ≤ 1125899906842624 → g (f m) = ((m : Int), 0)) {m q : Nat} (hm : m ≤ 1125899906842624) (hq : q ≤ 1125899906842624) :
    ((f m == f q) != ((m : Int) == (q : Int))) = false := by
  by_cases h : m = q
  · subst h
    rw [beq_self_eq_true, beq_self_eq_true]
    rfl
  · have h1 : (f m == f q) = false := beq_eq_false_iff_ne.2 fun e => h (by
      have := hb m hm
      rw [e, hb q hq] at this
      have := (Prod.mk.inj this).1
      omega)
    have h2 : ((m : Int) == (q : Int)) = false := beq_eq_false_iff_ne.2 (by omega)
    rw [h1, h2]
    rfl
theorem ev_back_j1 {m : Nat} (hm : m ≤ 1125899906842624) (n : Int) (l : List UInt8) (hl : l.length ≤ TOP) : Ev (fun k => sutlerlaw02_SuffixBack.j1 k (m : Int) n (bs l) (bs (cpuP m)) (bs (bytesP m)) (bs (moneyP m)) false) true := by
  refine Ev.succ ?_
  simp only [sutlerlaw02_SuffixBack.j1, Bool.false_eq_true, if_false]
  refine Ev.bindNow (pcpu_eq n) (Ev.bind (ev_pbytes n) (Ev.bindNow (pmoney_eq n) ?_))
  simp only [prV_err]
  by_cases h : chk n = 0
  · rcases chk_cases n with ⟨_, q, rfl, hq⟩ | ⟨e, _⟩ | ⟨e, _⟩
    · simp only [if_pos h, prV_nat hq, bs_list, same_text (f := cpuP) (g := cpuV) (fun m hm => cpu_back hm) hm hq, same_text (f := bytesP) (g := bytesV) (fun m hm => bytes_back hm) hm hq, same_text (f := moneyP) (g := moneyV) (fun m hm => money_back hm) hm hq, Bool.false_eq_true, if_false]
      exact ev_back_j2 l hl
    · rw [e] at h; exact absurd h (by decide)
    · rw [e] at h; exact absurd h (by decide)
  · simp only [if_neg h]
    exact ev_back_j2 l hl
theorem SuffixBack (a0 : Int) (a1 : Int) (a2 : ByteArray) (g0 : (Lit.int .i64 a0).wf = true) (g1 : (Lit.int .i64 a1).wf = true) (g2 : a2.size ≤ 140737488351232) : ∃ k, sutlerlaw02_SuffixBack.f k a0 a1 a2 = some true := by
  obtain ⟨l, rfl⟩ := as_bs a2
  have hl : l.length ≤ TOP := by rw [bs_size] at g2; unfold TOP; omega
  refine Ev.get (g := fun k => sutlerlaw02_SuffixBack.f k a0 a1 (bs l)) ?_
  unfold sutlerlaw02_SuffixBack.f
  refine Ev.bindNow (pcpu_eq a0) (Ev.bind (ev_pbytes a0) (Ev.bindNow (pmoney_eq a0) ?_))
  simp only [prV_err, if_true, bne_self_eq_false]
  refine Ev.succ ?_
  simp only [sutlerlaw02_SuffixBack.j0, Bool.false_eq_true, if_false]
  by_cases h : chk a0 = 0
  · rcases chk_cases a0 with ⟨_, m, rfl, hm⟩ | ⟨e, _⟩ | ⟨e, _⟩
    · simp only [if_pos h, prV_nat hm]
      refine Ev.bindNow (cpu_again hm) (Ev.bind (bytes_again hm) (Ev.bindNow (money_again hm) ?_))
      simp only [if_true, bne_self_eq_false]
      exact ev_back_j1 hm a1 l hl
    · rw [e] at h; exact absurd h (by decide)
    · rw [e] at h; exact absurd h (by decide)
  · simp only [if_neg h]
    exact ev_back_j2 l hl
end Go.Proofs.YtafncdmclhdkdaaDoor.PAll.Pure
