import Derived.Test.YtafncdmclhdkdaaDoorSPrint
/-! Dollars, printed. -/
set_option linter.unusedVariables false
set_option linter.unusedSimpArgs false
namespace Go.Proofs.YtafncdmclhdkdaaDoor.PAll
open Go.RowKit Go.Proofs.YtafncdmclhdkdaaDoorW.PrintWords Go.Proofs.YtafncdmclhdkdaaDoorW.PrintLast Go.Proofs.YtafncdmclhdkdaaDoorW.PrintMore
/-- The six digits behind the point. -/
def sixP (r : Nat) : List UInt8 := (D (1000000 + r)).drop 1
def moneyP (m : Nat) : List UInt8 := if m % 1000000 = 0 then D (m / 1000000) else (D (m / 1000000) ++ [46]) ++ Lib.trimRightB (sixP (m % 1000000)) 48
theorem digF_acc : ∀ (l : List UInt8) (a : Nat), digF a l = a * 10 ^ l.length + digF 0 l
  | [], a => by rw [digF_nil, digF_nil, List.length_nil, Nat.pow_zero, Nat.mul_one, Nat.add_zero]
  | c :: r, a => by
    rw [digF_cons, digF_cons, digF_acc r (a * 10 + (c.toNat - 48)), digF_acc r (0 * 10 + (c.toNat - 48)), List.length_cons, Nat.pow_succ, Nat.zero_mul, Nat.zero_add, Nat.add_mul, Nat.mul_assoc, Nat.mul_comm 10 (10 ^ r.length)]
    omega
theorem seven {r : Nat} (h : r < 1000000) : ∃ g, D (1000000 + r) = g :: sixP r ∧ (sixP r).length = 6 ∧ (∀ c ∈ sixP r, isDig c) ∧ digF 0 (sixP r) = r := by
  have hd := D_dig (n := 1000000 + r) (by omega)
  have h1 := decDigits_len 6 (1000000 + r) (by omega)
  have h2 := digF_lt (Lib.decDigits (1000000 + r)) 0 (decDigits_dig _)
  have h3 := digF_dec (1000000 + r)
  rw [h3, Nat.zero_add, Nat.one_mul] at h2
  rw [← D_eq (by omega)] at h1 h2 h3
  have hlen : (D (1000000 + r)).length = 7 := by
    rcases Nat.lt_or_ge (D (1000000 + r)).length 7 with hl | hl
    · have hp : 10 ^ (D (1000000 + r)).length ≤ 10 ^ 6 := Nat.pow_le_pow_right (by decide) (by omega)
      have h6 : (10 : Nat) ^ 6 = 1000000 := by decide
      omega
    · omega
  unfold sixP
  cases hD : D (1000000 + r) with
  | nil => rw [hD] at hlen; cases hlen
  | cons g F =>
    rw [hD] at hlen hd h3
    have hF : F.length = 6 := by rw [List.length_cons] at hlen; omega
    have hFd : ∀ c ∈ F, isDig c := fun c hc => hd c (by simp [hc])
    have hg := hd g (by simp)
    rw [digF_cons, digF_acc, hF] at h3
    have hlt := digF_lt F 0 hFd
    rw [hF, Nat.zero_add, Nat.one_mul] at hlt
    have h6 : (10 : Nat) ^ 6 = 1000000 := by decide
    rw [h6] at h3 hlt
    refine ⟨g, rfl, hF, hFd, ?_⟩
    show digF 0 F = r
    unfold isDig at hg
    generalize hgd : g.toNat - 48 = z at h3
    have hz : z < 10 := by omega
    obtain rfl | rfl | hz2 : z = 0 ∨ z = 1 ∨ 2 ≤ z := by omega
    · omega
    · omega
    · have : 2 * 1000000 ≤ (0 * 10 + z) * 1000000 := Nat.mul_le_mul_right _ (by omega)
      omega
theorem trim_nought (ys : List UInt8) : Lib.trimRightB (ys ++ [48]) 48 = Lib.trimRightB ys 48 := by
  unfold Lib.trimRightB
  rw [List.reverse_append]
  rfl
theorem trim_other (ys : List UInt8) {c : UInt8} (h : c ≠ 48) : Lib.trimRightB (ys ++ [c]) 48 = ys ++ [c] := by
  unfold Lib.trimRightB
  rw [List.reverse_append]
  have : (c == 48) = false := by simpa using h
  show (List.dropWhile (fun x => x == 48) (c :: ys.reverse)).reverse = _
  rw [List.dropWhile_cons_of_neg (by rw [this]; decide), List.reverse_cons, List.reverse_reverse]
theorem trim_back : ∀ (n : Nat) (l : List UInt8), l.length = n → Lib.trimRightB l 48 ++ List.replicate (l.length - (Lib.trimRightB l 48).length) 48 = l ∧ (Lib.trimRightB l 48).length ≤ l.length
  | 0, l, h => by
    obtain rfl := List.eq_nil_of_length_eq_zero h
    exact ⟨rfl, Nat.le_refl _⟩
  | n + 1, l, h => by
    have hne : l ≠ [] := by intro e; rw [e] at h; cases h
    obtain ⟨xs, c, rfl⟩ : ∃ xs c, l = xs ++ [c] := ⟨l.dropLast, l.getLast hne, (List.dropLast_concat_getLast hne).symm⟩
    have hx : xs.length = n := by simpa using h
    by_cases hc : c = 48
    · subst hc
      obtain ⟨e, hl⟩ := trim_back n xs hx
      rw [trim_nought, List.length_append, List.length_singleton]
      refine ⟨?_, by omega⟩
      rw [show xs.length + 1 - (Lib.trimRightB xs 48).length = (xs.length - (Lib.trimRightB xs 48).length) + 1 by omega, List.replicate_succ', ← List.append_assoc, e]
    · rw [trim_other xs hc, Nat.sub_self, List.replicate_zero, List.append_nil]
      exact ⟨rfl, Nat.le_refl _⟩
theorem not_noughts {l : List UInt8} (h : digF 0 l ≠ 0) : ∃ c ∈ l, c ≠ 48 := by
  refine Classical.byContradiction fun hn => h ?_
  have : l = List.replicate l.length 48 := List.eq_replicate_iff.2 ⟨rfl, fun c hc => Classical.byContradiction fun h2 => hn ⟨c, hc, h2⟩⟩
  rw [this, digF_noughts, Nat.zero_mul]
theorem six_len {r : Nat} (h : r < 1000000) : (sixP r).length ≤ 100 := by obtain ⟨_, _, h, _⟩ := seven h; omega
theorem trim_len (l : List UInt8) : (Lib.trimRightB l 48).length ≤ l.length := (trim_back l.length l rfl).2
theorem pmoney_eq (n : Int) : suffix_PrintMoney.f n = some (bs (prV moneyP n).1, (prV moneyP n).2) := by
  unfold suffix_PrintMoney.f
  rw [check_eq, Option.bind_some]
  by_cases h : chk n = 0
  · rcases chk_cases n with ⟨_, m, rfl, hm⟩ | ⟨e, _⟩ | ⟨e, _⟩
    · rw [if_pos h, prV_nat hm]
      unfold moneyP
      have hr : m % 1000000 < 1000000 := Nat.mod_lt _ (by decide)
      obtain ⟨g, h7, h6, hdg, _⟩ := seven hr
      have e1 : Int.tmod (m : Int) 1000000 = ((m % 1000000 : Nat) : Int) := rfl
      have e2 : Int.tdiv (m : Int) 1000000 = ((m / 1000000 : Nat) : Int) := rfl
      have e3 : wrap64 (1000000 + ((m % 1000000 : Nat) : Int)) = ((1000000 + m % 1000000 : Nat) : Int) := by unfold wrap64; omega
      rw [e1, e2, w_nat (by omega), e3, format_eq (by omega), Option.bind_some]
      by_cases h0 : m % 1000000 = 0
      · rw [if_pos (by omega), if_pos h0]
      · rw [if_neg (by omega), if_neg h0, if_pos (size_ok1 (D_short (by omega))), format_eq (by omega), Option.bind_some, h7]
        have c1 : (1 : Int) ≤ ((bs (g :: sixP (m % 1000000))).size : Int) := by rw [bs_size, List.length_cons]; omega
        have hx : (bs (g :: sixP (m % 1000000))).extract 1 (bs (g :: sixP (m % 1000000))).size = bs (sixP (m % 1000000)) := by
          rw [bs_cut, bs_size, drop_all]
          rfl
        have ht : strings_TrimRight.f (bs (sixP (m % 1000000))) ⟨#[48]⟩ = some (bs (Lib.trimRightB (sixP (m % 1000000)) 48)) := by
          unfold strings_TrimRight.f
          rw [if_pos ⟨by rw [bs_size]; omega, rfl⟩]
        rw [if_pos c1, hx, ht, Option.bind_some, bs_add]
        have hlen := trim_len (sixP (m % 1000000))
        have hD := D_len (n := m / 1000000) (by omega)
        rw [if_pos (size_ok (by rw [List.length_append, List.length_singleton]; omega) (by omega)), bs_add]
    · rw [e] at h; exact absurd h (by decide)
    · rw [e] at h; exact absurd h (by decide)
  · rw [if_neg h, prV_bad h]
theorem ev_rm_trim (s : List UInt8) (hs : s.length ≤ 50) : ∀ (n : Nat) (l : List UInt8), l.length = n → n ≤ 50 → (∃ c ∈ l, c ≠ 48) → Ev (fun k => sutlerref02_PrintMoney.l0 k (bs s) (bs l)) (bs ((s ++ [46]) ++ Lib.trimRightB l 48), 0)
  | 0, l, h, _, hc => by
    obtain rfl := List.eq_nil_of_length_eq_zero h
    obtain ⟨c, hc, _⟩ := hc
    exact absurd hc (by simp)
  | n + 1, l, h, hn, hc => by
    have hne : l ≠ [] := by intro e; rw [e] at h; cases h
    obtain ⟨xs, c, rfl⟩ : ∃ xs c, l = xs ++ [c] := ⟨l.dropLast, l.getLast hne, (List.dropLast_concat_getLast hne).symm⟩
    have hx : xs.length = n := by simpa using h
    refine Ev.succ ?_
    have hsz : (xs ++ [c]).length = n + 1 := h
    have w1 : wrap64 (((xs ++ [c]).length : Int) - 1) = (n : Int) := by rw [hsz]; unfold wrap64; omega
    have hb : bt (bs (xs ++ [c])) (n : Int) = (c.toNat : Int) := by
      rw [bs_bt _ n (by rw [hsz]; omega)]
      have : (xs ++ [c])[n]'(by rw [hsz]; omega) = c := by
        rw [List.getElem_append_right (by omega)]
        simp
      rw [this]
    simp only [sutlerref02_PrintMoney.l0, bs_size, w1, if_pos (show (0 : Int) ≤ (n : Int) by omega), if_pos (show (n : Int) < ((xs ++ [c]).length : Int) by rw [hsz]; omega), hb]
    by_cases h48 : c = 48
    · subst h48
      have hcut : (bs (xs ++ [48])).extract 0 n = bs xs := by
        rw [bs_cut, List.drop_zero, Nat.sub_zero, ← hx, List.take_left]
      simp only [if_pos (show (((48 : UInt8).toNat : Nat) : Int) = 48 from rfl), if_pos (show (n : Int) ≤ ((xs ++ [48]).length : Int) by rw [hsz]; omega), Int.toNat_natCast, hcut, trim_nought]
      refine ev_rm_trim s hs n xs hx (by omega) ?_
      obtain ⟨y, hy, hy2⟩ := hc
      rcases List.mem_append.1 hy with hy | hy
      · exact ⟨y, hy, hy2⟩
      · exact absurd (List.mem_singleton.1 hy) hy2
    · have hne48 : ¬ ((c.toNat : Int) = 48) := fun e => h48 (UInt8.toNat_inj.1 (by have : (48 : UInt8).toNat = 48 := rfl; omega))
      have c1 : s.length + 1 ≤ 9223372036854775807 := by omega
      simp only [if_neg hne48, if_pos c1, bs_add]
      have c2 : (bs (s ++ [46])).size + (xs ++ [c]).length ≤ 9223372036854775807 := by rw [bs_size, List.length_append, List.length_singleton, hsz]; omega
      rw [bs_size] at c2
      simp only [bs_size, if_pos c2, trim_other xs h48]
      exact Ev.const _
theorem ev_rpmoney (n : Int) : Ev (fun k => sutlerref02_PrintMoney.f k n) (bs (prV moneyP n).1, (prV moneyP n).2) := by
  unfold sutlerref02_PrintMoney.f
  refine Ev.bindNow (rcheck_eq n) ?_
  by_cases h : chk n = 0
  · rcases chk_cases n with ⟨_, m, rfl, hm⟩ | ⟨e, _⟩ | ⟨e, _⟩
    · simp only [if_pos h]
      rw [prV_nat hm]
      unfold moneyP
      have hr : m % 1000000 < 1000000 := Nat.mod_lt _ (by decide)
      obtain ⟨g, h7, h6, hdg, hval⟩ := seven hr
      have e1 : Int.tmod (m : Int) 1000000 = ((m % 1000000 : Nat) : Int) := rfl
      have e2 : Int.tdiv (m : Int) 1000000 = ((m / 1000000 : Nat) : Int) := rfl
      have e3 : wrap64 (((m % 1000000 : Nat) : Int) + 1000000) = ((1000000 + m % 1000000 : Nat) : Int) := by unfold wrap64; omega
      simp only [e1, e2, e3, w_nat (show m / 1000000 ≤ 9223372036854775807 by omega)]
      refine Ev.bind (ev_dec (by omega)) ?_
      by_cases h0 : m % 1000000 = 0
      · simp only [if_pos (show ((m % 1000000 : Nat) : Int) = 0 by omega), if_pos h0]
        exact Ev.const _
      · simp only [if_neg (show ¬ ((m % 1000000 : Nat) : Int) = 0 by omega), if_neg h0]
        refine Ev.bind (ev_dec (by omega)) ?_
        have c1 : (1 : Int) ≤ ((bs (D (1000000 + m % 1000000))).size : Int) := by rw [bs_size, h7, List.length_cons]; omega
        have hx : (bs (D (1000000 + m % 1000000))).extract 1 (bs (D (1000000 + m % 1000000))).size = bs (sixP (m % 1000000)) := by
          rw [bs_cut, bs_size, drop_all]
          rfl
        simp only [if_pos c1, hx]
        refine ev_rm_trim (D (m / 1000000)) (by have := D_len (n := m / 1000000) (by omega); omega) 6 (sixP (m % 1000000)) h6 (by decide) (not_noughts (by rw [hval]; exact h0))
    · rw [e] at h; exact absurd h (by decide)
    · rw [e] at h; exact absurd h (by decide)
  · simp only [if_neg h]
    rw [prV_bad h]
    exact Ev.const _
/-! ### what is printed is read as what it was -/
theorem times_fit {m p : Nat} (hp : 0 < p) (h : m * p ≤ 1125899906842624) : timesV (m : Int) (p : Int) = (((m * p : Nat) : Int), 0) := by
  unfold timesV
  have h1 : m ≤ 1125899906842624 / p := (Nat.le_div_iff_mul_le hp).2 h
  have e : (1125899906842624 : Int) / (p : Int) = ((1125899906842624 / p : Nat) : Int) := rfl
  rw [e, if_neg (by omega), ← Int.natCast_mul, w_nat (by omega)]
theorem no_end {l e : List UInt8} {c : UInt8} (hl : ∀ x ∈ l, isDig x) (he : c ∈ e) (hc : ¬ isDig c) : ¬ ∃ x, l = x ++ e := by
  rintro ⟨x, rfl⟩
  exact hc (hl c (by simp [he]))
theorem cpu_back {m : Nat} (hm : m ≤ 1125899906842624) : cpuV (cpuP m) = ((m : Int), 0) := by
  unfold cpuP
  by_cases h : m % 1000 = 0
  · rw [if_pos h]
    unfold cpuV
    rw [cutL_false (no_end (c := 109) (D_dig (by omega)) (by simp) (by unfold isDig; decide)), D_read (by omega), if_pos rfl, if_neg (by intro h; cases h)]
    have := times_fit (m := m / 1000) (p := 1000) (by decide) (by omega)
    rw [show m / 1000 * 1000 = m by omega] at this
    exact this
  · rw [if_neg h]
    unfold cpuV
    rw [cutL_append, D_read (by omega), if_pos rfl, if_pos rfl]
    have := times_fit (m := m) (p := 1) (by decide) (by omega)
    rw [Nat.mul_one] at this
    exact this
theorem not_dig (c : UInt8) (h : decide (isDig c) = false) : ¬ isDig c := of_decide_eq_false h
theorem bytes_of {u : Nat} (hu : u < 1000000000000000000) (k : Nat) (hk : k < 5) : bytesV (D u ++ sufP k) = timesV (u : Int) ((powP k : Nat) : Int) := by
  have hg : ∀ p : Int, goB (D u) p = timesV (u : Int) p := fun p => by unfold goB; rw [D_read hu, if_pos rfl]
  obtain rfl | rfl | rfl | rfl | rfl : k = 0 ∨ k = 1 ∨ k = 2 ∨ k = 3 ∨ k = 4 := by omega
  · have hd := D_dig hu
    rw [show sufP 0 = [] from rfl, List.append_nil, bytes_none (no_end (c := 105) hd (by simp) (not_dig _ (by decide))) (no_end (c := 105) hd (by simp) (not_dig _ (by decide))) (no_end (c := 105) hd (by simp) (not_dig _ (by decide))) (no_end (c := 105) hd (by simp) (not_dig _ (by decide)))]
    exact hg 1
  · exact (bytes_Ki (D u)).trans (hg P1)
  · exact (bytes_Mi (D u)).trans (hg P2)
  · exact (bytes_Gi (D u)).trans (hg P3)
  · exact (bytes_Ti (D u)).trans (hg P4)
theorem rbL_back (m : Nat) (hm : m ≤ 1125899906842624) : ∀ k : Nat, k < 5 → bytesV (rbL m k) = ((m : Int), 0)
  | 0, _ => by
    have := bytes_of (u := m) (by omega) 0 (by decide)
    rw [show sufP 0 = [] from rfl, List.append_nil] at this
    have h2 := times_fit (m := m) (p := 1) (by decide) (by omega)
    rw [Nat.mul_one] at h2
    exact this.trans h2
  | k + 1, hk => by
    by_cases h : m % powP (k + 1) = 0
    · rw [show rbL m (k + 1) = D (m / powP (k + 1)) ++ sufP (k + 1) from if_pos h]
      have hp := powP_pos (k + 1)
      have hdm : m / powP (k + 1) ≤ m := Nat.div_le_self _ _
      have hmul : m / powP (k + 1) * powP (k + 1) = m := Nat.div_mul_cancel (Nat.dvd_of_mod_eq_zero h)
      rw [bytes_of (by omega) (k + 1) hk, times_fit hp (by rw [hmul]; exact hm), hmul]
    · rw [show rbL m (k + 1) = rbL m k from if_neg h]
      exact rbL_back m hm k (by omega)
theorem bytes_back {m : Nat} (hm : m ≤ 1125899906842624) : bytesV (bytesP m) = ((m : Int), 0) := by
  rcases Nat.eq_zero_or_pos m with rfl | h
  · have := rbL_back 0 (by decide) 0 (by decide)
    exact this
  · rw [← rbL_eq h]
    exact rbL_back m hm 4 (by decide)
theorem dot_digs {l : List UInt8} (h : ∀ c ∈ l, isDig c) : dotL l = l ∧ point l = false := by
  have h46 : ∀ c ∈ l, c ≠ 46 := fun c hc e => by
    have := h c hc
    rw [e] at this
    unfold isDig at this
    exact absurd this.1 (by decide)
  have hp : point l = false := by
    unfold point
    exact List.any_eq_false.2 fun c hc => by simpa using h46 c hc
  rcases index_point l with ⟨_, _, e⟩ | ⟨e, _⟩
  · exact ⟨e, hp⟩
  · rw [hp] at e
    cases e
theorem dot_at {x y : List UInt8} (h : ∀ c ∈ x, isDig c) : dotL (x ++ 46 :: y) = x ∧ point (x ++ 46 :: y) = true ∧ restL (x ++ 46 :: y) = y := by
  have h46 : ∀ c ∈ x, (c != 46) = true := fun c hc => by
    have := h c hc
    have hne : c ≠ 46 := fun e => by
      rw [e] at this
      unfold isDig at this
      exact absurd this.1 (by decide)
    simpa using hne
  refine ⟨?_, ?_, ?_⟩
  · unfold dotL
    rw [List.takeWhile_append_of_pos h46]
    simp
  · unfold point
    simp
  · unfold restL
    rw [List.dropWhile_append_of_pos h46]
    rfl
theorem total_fit {w r : Nat} (h : w * 1000000 + r ≤ 1125899906842624) : totalV (w : Int) (r : Int) = (((w * 1000000 + r : Nat) : Int), 0) := by
  unfold totalV
  rw [if_neg (by omega), if_neg (by omega)]
  refine Prod.ext ?_ rfl
  show (w : Int) * 1000000 + (r : Int) = _
  omega
theorem money_back {m : Nat} (hm : m ≤ 1125899906842624) : moneyV (moneyP m) = ((m : Int), 0) := by
  unfold moneyP
  have hr : m % 1000000 < 1000000 := Nat.mod_lt _ (by decide)
  have hdD := D_dig (n := m / 1000000) (by omega)
  have hdr := D_read (n := m / 1000000) (by omega)
  by_cases h : m % 1000000 = 0
  · rw [if_pos h]
    obtain ⟨e1, e2⟩ := dot_digs hdD
    unfold moneyV
    rw [e1, e2, hdr, if_neg (by intro h; cases h), if_neg (by intro h; cases h)]
    have := total_fit (w := m / 1000000) (r := 0) (by omega)
    rw [show m / 1000000 * 1000000 + 0 = m by omega] at this
    exact this
  · rw [if_neg h]
    obtain ⟨g, h7, h6, hdg, hval⟩ := seven hr
    obtain ⟨hb, hl⟩ := trim_back _ (sixP (m % 1000000)) rfl
    generalize hT : Lib.trimRightB (sixP (m % 1000000)) 48 = T at hb hl
    rw [h6] at hb hl
    have hTd : ∀ c ∈ T, isDig c := fun c hc => hdg c (by rw [← hb]; simp [hc])
    have hTn : T ≠ [] := by
      rintro rfl
      rw [List.nil_append] at hb
      have : digF 0 (sixP (m % 1000000)) = 0 := by rw [← hb, digF_noughts, Nat.zero_mul]
      omega
    obtain ⟨e1, e2, e3⟩ := dot_at (y := T) hdD
    rw [List.append_assoc, show [46] ++ T = 46 :: T from rfl]
    unfold moneyV
    have hno : ¬ (T = [] ∨ 6 < T.length) := fun h => h.elim hTn (by omega)
    rw [e1, e2, e3, hdr, if_neg (by intro h; cases h), if_pos rfl, if_neg hno, frac_digs hl hTd, hb, hval]
    show totalV _ _ = _
    rw [total_fit (by omega), show m / 1000000 * 1000000 + m % 1000000 = m by omega]
end Go.Proofs.YtafncdmclhdkdaaDoor.PAll
